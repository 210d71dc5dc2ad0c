/- My own texts, packed: K2x, K3x, K4x, K5x, S2, S3, S5, S6, KTx, S7, KUx, KVx, KWx, KXx, KKx, FyA2, S16, KSx, S9, S11, S12, S13, S14, S17. -/
import Derived.Test.YtpmgdmbcdohgcaaDoorM2
import Derived.Test.YtpmgdmbcdohgcaaDoorM3
import Derived.Test.YtpmgdmbcdohgcaaDoorM5
/- Layer 20: the note that answers; stages (walks over this dump). -/
namespace Go.Proofs.YtpmgdmbcdohgcaaDoor
attribute [local irreducible] Tryd.prog
open Go.Fy
set_option linter.unusedSimpArgs false
section
variable {ea : Nat → Addr} {cds : List Nat} {gl : Nat → Option AV}
end
end Go.Proofs.YtpmgdmbcdohgcaaDoor
/- Layer 20: stages (walks over this dump). -/
namespace Go.Proofs.YtpmgdmbcdohgcaaDoor
attribute [local irreducible] Tryd.prog
open Go.Fy
set_option linter.unusedSimpArgs false
section
variable {ea : Nat → Addr} {cds : List Nat} {gl : Nat → Option AV}
end
end Go.Proofs.YtpmgdmbcdohgcaaDoor
/- Go's library: rows cloned, searched (walks over this dump). -/
namespace Go.Proofs.YtpmgdmbcdohgcaaDoor
attribute [local irreducible] Tryd.prog
open Go.Fy
set_option linter.unusedSimpArgs false
section
variable {ea : Nat → Addr} {cds : List Nat} {gl : Nat → Option AV}
theorem c64 (b : Bool) (n : Nat) (f : Nat → AV) (h0 : b = true → n = 0) (h1 : n ≤ 140737488355328) : APure (V ea cds gl) 64 [.sl 1 b n f] false (.sl 1 b n f) := by
 refine acalls_of_body (N := 8) Tryd.func64 rfl rfl (Nat.le_of_ble_eq_true rfl) fun C hV hN hM hO => ?_
 obtain ⟨_, _, w0, G0, σ0, _, own0⟩ := C; dsimp only at hV hN hM hO; subst hV; subst hN; subst hM
 refine awp_seq (awp_region rfl ?_)
 refine sP (opp_as (v := .sl _ _ _ _) rfl rfl) rfl rfl ?_
 refine awp_seq (awp_seq (awp_region rfl ?_))
 refine sP (opp_mv (v := .sl _ _ _ _) rfl rfl) rfl rfl ?_
 refine sP (opp_slNil rfl rfl rfl un38 (.inl ⟨rfl, rfl⟩)) rfl rfl ?_
 refine awp_cond _ rfl (fun hc3 => ?_) (fun hc3 => ?_)
 ·(try simp only [cmpI, errD_nil, qa, qb, qc, qd] at hc3); have ht4 := hc3
  refine awp_seq (awp_region rfl ?_)
  refine sP (opp_as (v := .sl _ _ _ _) rfl rfl) rfl rfl ?_
  refine awp_ret ?_
  repeat (first | refine athen_ret ?_ | refine ain_ret ?_)
  refine apost_ret (aend1 (r0 := .sl _ _ _ _) (.tmp .nil) (.noN rfl rfl) ⟨Wk.v ?_, rfl, rfl⟩)
  have h2 := h0 hc3
  subst hc3; subst h2; exact .sl0
 ·(try simp only [cmpI, errD_nil, qa, qb, qc, qd] at hc3); have ht4 := hc3
  refine awp_skip (awp_seq (awp_region rfl ?_))
  refine sR (opr_buildSlice (n := 5) (g := fun _ => .int .u8 0) rfl eb38 z5 (by decide) rfl rfl) rfl rfl rfl ?_
  refine sP (opp_mv (v := .sl _ _ _ _) rfl rfl) rfl rfl ?_
  refine sR (opr_append (d := 7) rfl rfl rfl (by omega) .sl eb38 z5 (by omega) (by omega)) rfl rfl rfl ?_
  refine sP (opp_as (v := .osl _ _ _ _ _) rfl rfl) rfl rfl ?_
  refine awp_ret ?_
  repeat (first | refine athen_ret ?_ | refine ain_ret ?_)
  refine apost_ret (aend1s (r0 := .osl _ _ _ _ _) (.tmp .nil) shut rfl ⟨Wk.v ?_, rfl, rfl⟩)
  subst hc3; simp only [Nat.zero_add]; exact .sl (fun j hj => by simp)
end
end Go.Proofs.YtpmgdmbcdohgcaaDoor
/- Rows cloned, as own rows; stages go on (walks over this dump). -/
namespace Go.Proofs.YtpmgdmbcdohgcaaDoor
attribute [local irreducible] Tryd.prog
open Go.Fy
set_option linter.unusedSimpArgs false
section
variable {ea : Nat → Addr} {cds : List Nat} {gl : Nat → Option AV}
theorem co65 (n : Nat) (f : Nat → AV) (h1 : n ≤ 140737488355328) : AOwn (V ea cds gl) 65 [.sl 1 false n f] false (.osl 7 1 0 n n) [(7, some (.arr 1 n f))] := by
 refine aown_of_body (N := 8) Tryd.func65 rfl rfl (Nat.le_of_ble_eq_true rfl) fun C hV hN hM hO => ?_
 obtain ⟨_, _, w0, G0, σ0, _, own0⟩ := C; dsimp only at hV hN hM hO; subst hV; subst hN; subst hM
 refine awp_seq (awp_region rfl ?_)
 refine sP (opp_as (v := .sl _ _ _ _) rfl rfl) rfl rfl ?_
 refine awp_seq (awp_seq (awp_region rfl ?_))
 refine sP (opp_mv (v := .sl _ _ _ _) rfl rfl) rfl rfl ?_
 refine sP (opp_slNil rfl rfl rfl un38 (.inl ⟨rfl, rfl⟩)) rfl rfl ?_
 refine awp_cond _ rfl (fun hc3 => ?_) (fun hc3 => ?_)
 ·(try simp only [cmpI, errD_nil, qa, qb, qc, qd] at hc3); have ht4 := hc3
  refine awp_seq (awp_region rfl ?_)
  refine sP (opp_as (v := .sl _ _ _ _) rfl rfl) rfl rfl ?_
  refine awp_ret ?_
  repeat (first | refine athen_ret ?_ | refine ain_ret ?_)
  simp at hc3
 ·(try simp only [cmpI, errD_nil, qa, qb, qc, qd] at hc3); have ht4 := hc3
  refine awp_skip (awp_seq (awp_region rfl ?_))
  refine sR (opr_buildSlice (n := 5) (g := fun _ => .int .u8 0) rfl eb38 z5 (by decide) rfl rfl) rfl rfl rfl ?_
  refine sP (opp_mv (v := .sl _ _ _ _) rfl rfl) rfl rfl ?_
  refine sR (opr_append (d := 7) rfl rfl rfl (by omega) .sl eb38 z5 (by omega) (by omega)) rfl rfl rfl ?_
  refine sP (opp_as (v := .osl _ _ _ _ _) rfl rfl) rfl rfl ?_
  refine awp_ret ?_
  repeat (first | refine athen_ret ?_ | refine ain_ret ?_)
  refine opost_ret (oend1 (r0 := .osl _ _ _ _ _) (.tmp .nil) shut rfl ?_ (And.intro (Exists.intro _ (Exists.intro _ (And.intro rfl (And.intro shut (And.intro (fun h => by cases h) (And.intro ?_ rfl)))))) True.intro))
  ·simp only [Nat.zero_add]; exact .refl
  ·simp only [Nat.zero_add]; exact .arr (fun j hj => by simp)
end
end Go.Proofs.YtpmgdmbcdohgcaaDoor
/- Plain Lean: what the program's layer 22 computes, as functions of numbers and lists (my own text; no program in sight). -/
namespace Go.Fy
structure Send where
  part : Int
  xid : Xid
  stage : Int
  image : List UInt8
  acked : List Bool
  rounds : Int
  deriving DecidableEq
namespace Sp
def zeroSend : Send := ⟨0, ⟨0, 0, 0⟩, 0, [], [], 0⟩
def cutS (s : Send) : List Note × Nat := cut s.part s.xid s.stage s.image
def goodSend (s : Send) : Bool := decide ((cutS s).2 = 0) && decide ((cutS s).1.length = s.acked.length) && decide (0 ≤ s.rounds)
/-- The first i pieces that aren't acknowledged. -/
def dueTo (s : Send) (i : Nat) : List Note := ((List.range i).filter fun j => !s.acked.getD j false).map fun j => (cutS s).1.getD j zero
def due (s : Send) : List Note × Nat := if goodSend s = false then ([], 9) else (dueTo s (cutS s).1.length, 0)
def wholeR (r : Recv) : List UInt8 × Bool × Nat := if goodR r = false then ([], false, 9) else if r.on = false then ([], false, 0) else whole r.stage
end Sp
theorem b_append (l : List UInt8) (x : UInt8) (j n : Nat) (hn : n = l.length) (Z : AV) (hj : j < n + 1) :
    (if j < n then bAt l j else if j - n = 0 then .int .u8 (x.toNat : Int) else Z) = bAt (l ++ [x]) j := by
  subst hn
  simp only [bAt, List.getD_eq_getElem?_getD, List.getElem?_append]
  by_cases h : j < l.length
  · rw [if_pos h, if_pos h]
  · obtain rfl : j = l.length := by omega
    simp
namespace Sp
end Sp
theorem u8_wrap (n : Nat) : IntKind.u8.wrap (n : Int) = ((UInt8.ofNat n).toNat : Int) := by
  simp [IntKind.wrap, IntKind.bits, IntKind.signed]
namespace Sp
/-! The fixed fact of layer 22's statements: an image of 130 bytes in two pieces. -/
end Sp
end Go.Fy
/- Plain Lean: pieces of one image, in any order (my own text; no program in sight). -/
namespace Go.Fy
namespace Sp
/-- What is asked of an image that goes. -/
structure Fine (p : Int) (x : Xid) (st : Int) (im : List UInt8) : Prop where
  part : goodPart p = true
  xid : goodXid x = true
  stage : goodStage st = true
  lo : 1 ≤ im.length
  hi : im.length ≤ 4096
section
variable {p : Int} {x : Xid} {st : Int} {im : List UInt8}
theorem Fine.tot (h : Fine p x st im) : 1 ≤ total im ∧ total im ≤ 32 ∧ 128 * (total im - 1) < im.length ∧ im.length ≤ 128 * total im := by
  have := h.lo; have := h.hi
  unfold total; omega
theorem Fine.cut (h : Fine p x st im) : cut p x st im = (notes p x st im, 0) := by
  have := h.lo; have := h.hi
  have hw : within im.length 1 4096 = true := by simp only [within, decide_eq_true_eq]; omega
  simp [Sp.cut, h.part, h.xid, h.stage, hw]
theorem Fine.len (h : Fine p x st im) (j : Nat) (hj : j < total im) : (pieceOf im j).length = if j = total im - 1 then im.length - 128 * j else 128 := by
  have h1 := h.tot
  rw [pieceOf_length]
  split
  · subst j; omega
  · omega
theorem Fine.ne (h : Fine p x st im) (j : Nat) (hj : j < total im) : pieceOf im j ≠ [] := by
  intro e
  have h1 := h.len j hj
  have h2 := h.tot
  rw [e] at h1
  split at h1
  · subst j; simp at h1; omega
  · simp at h1
theorem Fine.goodLen (h : Fine p x st im) (j : Nat) (hj : j < total im) : Sp.goodLen (pieceOf im j).length j (total im) = true := by
  have h1 := h.len j hj
  have h2 := h.tot
  unfold Sp.goodLen
  split
  · rename_i e
    have e2 : j = total im - 1 := by omega
    rw [if_pos e2] at h1
    simp only [within, decide_eq_true_eq]; omega
  · rename_i e
    rw [if_neg (by omega)] at h1
    simp [h1]
def piecesOf (im : List UInt8) (came : List Bool) : List (List UInt8) := (List.range (total im)).map fun j => if came.getD j false then pieceOf im j else []
theorem piecesOf_length (came : List Bool) : (piecesOf im came).length = total im := by simp [piecesOf]
theorem piecesOf_get (came : List Bool) (j : Nat) (hj : j < total im) : (piecesOf im came).getD j [] = if came.getD j false then pieceOf im j else [] := by
  simp [piecesOf, List.getD_eq_getElem?_getD, hj]
def stageOf (p : Int) (x : Xid) (st : Int) (im : List UInt8) (came : List Bool) : Stage := ⟨p, st, total im, x, piecesOf im came⟩
def recvOf (p : Int) (x : Xid) (st : Int) (im : List UInt8) (came : List Bool) : Recv := if came.any id then ⟨true, stageOf p x st im came⟩ else zeroR
theorem Fine.goodS (h : Fine p x st im) (came : List Bool) : Sp.goodS (stageOf p x st im came) = true := by
  have h2 := h.tot
  simp only [Sp.goodS, stageOf, Bool.and_eq_true, List.all_eq_true, List.mem_range, Bool.or_eq_true, decide_eq_true_eq, piecesOf_length]
  refine ⟨⟨⟨⟨⟨h.part, h.xid⟩, h.stage⟩, by simp only [within, decide_eq_true_eq]; omega⟩, trivial⟩, fun j hj => ?_⟩
  have e := piecesOf_get came j hj
  cases hc : came.getD j false with
  | false => rw [hc] at e; left; exact decide_eq_true e
  | true => rw [hc] at e; right; simp only [if_true] at e; rw [e]; exact h.goodLen j hj
theorem Fine.check (h : Fine p x st im) (k : Nat) (hk : k < total im) : Sp.check (cutNote p x st im k k (total im)) = 0 := by
  have h2 := h.tot
  have h3 := h.goodLen k hk
  simp only [Sp.check, cutNote, staged, Sp.pieces, h.part, h.xid, h.stage, h3]
  simp [within]
  omega
theorem Fine.chunk (h : Fine p x st im) (k : Nat) (hk : k < total im) : Sp.chunk (cutNote p x st im k k (total im)) = 0 := by
  simp only [Sp.chunk, h.check k hk]; simp [cutNote]
theorem any_id {l : List Bool} : l.any id = true ↔ ∃ j, j < l.length ∧ l.getD j false = true := by
  rw [List.any_eq_true]
  constructor
  · rintro ⟨b, hb, h⟩
    obtain ⟨j, hj, rfl⟩ := List.mem_iff_getElem.1 hb
    exact ⟨j, hj, by simpa [List.getD_eq_getElem?_getD, hj] using h⟩
  · rintro ⟨j, hj, h⟩
    refine ⟨l[j], List.getElem_mem hj, ?_⟩
    simpa [List.getD_eq_getElem?_getD, hj] using h
theorem Fine.goodR (h : Fine p x st im) (came : List Bool) (hl : came.length = total im) : Sp.goodR (recvOf p x st im came) = true := by
  unfold recvOf
  split
  · rename_i ha
    obtain ⟨j, hj, hc⟩ := any_id.1 ha
    simp only [Sp.goodR, h.goodS came, Bool.true_and]
    rw [if_neg (by simp)]
    refine List.any_eq_true.2 ⟨j, by simp [stageOf, piecesOf_length]; omega, ?_⟩
    have e := piecesOf_get came j (im := im) (by omega)
    rw [if_pos hc] at e
    have : ¬ (piecesOf im came).getD j [] = [] := by rw [e]; exact h.ne j (by omega)
    simp only [Bool.not_eq_true', decide_eq_false_iff_not]
    exact this
  · decide
theorem set_get (came : List Bool) (k j : Nat) (hk : k < came.length) : (came.set k true).getD j false = if j = k then true else came.getD j false := by
  simp only [List.getD_eq_getElem?_getD, List.getElem?_set]
  by_cases e : k = j
  · subst e; simp [hk]
  · rw [if_neg e, if_neg (Ne.symm e)]
theorem piecesOf_set (came : List Bool) (k : Nat) (hl : came.length = total im) (hk : k < total im) : (piecesOf im came).set k (pieceOf im k) = piecesOf im (came.set k true) := by
  apply List.ext_getElem?
  intro j
  rw [List.getElem?_set]
  by_cases hj : j < total im
  · have e1 : (piecesOf im came)[j]? = some (if came.getD j false then pieceOf im j else []) := by simp [piecesOf, hj]
    have e2 : (piecesOf im (came.set k true))[j]? = some (if (came.set k true).getD j false then pieceOf im j else []) := by simp [piecesOf, hj]
    rw [e1, e2, set_get came k j (by omega), piecesOf_length]
    by_cases e : k = j
    · subst e; simp [hj]
    · rw [if_neg e, if_neg (Ne.symm e)]
  · have e1 : (piecesOf im came)[j]? = none := List.getElem?_eq_none (by rw [piecesOf_length]; omega)
    have e2 : (piecesOf im (came.set k true))[j]? = none := List.getElem?_eq_none (by rw [piecesOf_length]; omega)
    rw [e1, e2, if_neg (by omega)]
theorem piecesOf_none (came : List Bool) (h : ¬ came.any id = true) : piecesOf im came = List.replicate (total im) [] := by
  apply List.ext_getElem?
  intro j
  rw [List.getElem?_replicate]
  by_cases hj : j < total im
  · rw [if_pos hj]
    have e1 : (piecesOf im came)[j]? = some (if came.getD j false then pieceOf im j else []) := by simp [piecesOf, hj]
    have e3 : came.getD j false = false := by
      cases hc : came.getD j false with
      | false => rfl
      | true =>
        refine absurd (any_id.2 ⟨j, ?_, hc⟩) h
        rcases Nat.lt_or_ge j came.length with h1 | h1
        · exact h1
        · rw [List.getD_eq_getElem?_getD, List.getElem?_eq_none h1] at hc; cases hc
    rw [e1, e3]; rfl
  · rw [if_neg hj]; exact List.getElem?_eq_none (by rw [piecesOf_length]; omega)
def ackOf (p : Int) (x : Xid) (st : Int) (im : List UInt8) (k : Nat) : Note := ⟨7, p, x, st, k, total im, 0, []⟩
theorem Fine.answer (h : Fine p x st im) (k : Nat) (hk : k < total im) : answer (cutNote p x st im k k (total im)) 7 0 = (ackOf p x st im k, 0) := by
  simp only [Sp.answer, h.check k hk]; simp [cutNote, ackOf]
theorem any_set (came : List Bool) (k : Nat) (hk : k < came.length) : (came.set k true).any id = true := any_id.2 ⟨k, by simpa using hk, by rw [set_get came k k hk, if_pos rfl]⟩
/-- A piece comes. -/
theorem Fine.take (h : Fine p x st im) (came : List Bool) (hl : came.length = total im) (k : Nat) (hk : k < total im) :
    take (recvOf p x st im came) (cutNote p x st im k k (total im)) = (recvOf p x st im (came.set k true), ackOf p x st im k, 0) := by
  have h1 := h.goodR came hl
  have h2 := h.check k hk
  have h3 := h.chunk k hk
  have hset : recvOf p x st im (came.set k true) = ⟨true, stageOf p x st im (came.set k true)⟩ := by rw [recvOf, if_pos (any_set came k (by omega))]
  have hcome : come (recvOf p x st im came) (cutNote p x st im k k (total im)) = (stageOf p x st im (came.set k true), 0) := by
    by_cases ha : came.any id = true
    · rw [recvOf, if_pos ha, come, if_pos (by simp [stageOf, cutNote])]
      have hadd : add (stageOf p x st im came) (cutNote p x st im k k (total im)) = (stageOf p x st im (came.set k true), decide ((stageOf p x st im came).pieces.getD k [] = []), 0) := by
        have hg : (stageOf p x st im came).pieces.getD k [] = if came.getD k false then pieceOf im k else [] := piecesOf_get came k hk
        have hn : (cutNote p x st im k k (total im)).index.toNat = k := by simp [cutNote]
        have hd : (cutNote p x st im k k (total im)).data = pieceOf im k := rfl
        have h4 : ¬ ((stageOf p x st im came).pieces.getD k [] ≠ [] ∧ (stageOf p x st im came).pieces.getD k [] ≠ pieceOf im k) := by
          rw [hg]; split <;> simp
        rw [add, if_neg (by rw [h.goodS came]; simp), if_neg (by rw [h3]; simp), if_neg (by simp [stageOf, cutNote]), hn, hd, if_neg h4]
        refine congrArg (fun z => (z, _, 0)) ?_
        simp only [stageOf]
        rw [piecesOf_set came k hl hk]
      rw [hadd]
    · rw [recvOf, if_neg ha, come, if_neg (by simp [zeroR]), begin_, if_neg (by rw [h3]; simp)]
      refine congrArg (fun z => (z, 0)) ?_
      simp only [stageOf]
      have e : (List.replicate (total im) []).set k (pieceOf im k) = piecesOf im (came.set k true) := by rw [← piecesOf_set came k hl hk, piecesOf_none came ha]
      rw [← e]; simp [cutNote]
  rw [Sp.take, if_neg (by rw [h1]; simp), if_neg (by rw [h2]; simp), if_neg (by simp [cutNote]), hcome, if_neg (by simp), h.answer k hk, hset]
theorem drop_flatten (im : List UInt8) : ∀ n, im.length ≤ 128 * n → ((List.range n).map fun j => pieceOf im j).flatten = im := by
  intro n hn
  have : ∀ m, m ≤ n → ((List.range m).map fun j => pieceOf im j).flatten = im.take (128 * m) := by
    intro m
    induction m with
    | zero => intro _; simp
    | succ m ih =>
      intro hm
      rw [List.range_succ, List.map_append, List.flatten_append, ih (by omega)]
      simp only [List.map_cons, List.map_nil, List.flatten_cons, List.flatten_nil, List.append_nil, pieceOf]
      rw [show 128 * (m + 1) = 128 * m + 128 by omega, List.take_add]
  rw [this n (Nat.le_refl _), List.take_of_length_le hn]
/-- The whole is there just if each came. -/
theorem Fine.whole (h : Fine p x st im) (came : List Bool) (hl : came.length = total im) : wholeR (recvOf p x st im came) = if (came.all id) = true then (im, true, 0) else ([], false, 0) := by
  have h2 := h.tot
  rw [wholeR, if_neg (by rw [h.goodR came hl]; simp)]
  by_cases ha : came.any id = true
  · rw [recvOf, if_pos ha, if_neg (by simp)]
    show Sp.whole (stageOf p x st im came) = _
    rw [Sp.whole, if_neg (by rw [h.goodS came]; simp)]
    by_cases hall : came.all id = true
    · have hg : ∀ j, j < total im → came.getD j false = true := fun j hj => by
        have := List.all_eq_true.1 hall (came[j]'(by omega)) (List.getElem_mem _)
        simpa [List.getD_eq_getElem?_getD, show j < came.length by omega] using this
      rw [if_neg, if_pos hall]
      · refine congrArg (fun z => (z, true, 0)) ?_
        show (piecesOf im came).flatten = im
        have e : piecesOf im came = (List.range (total im)).map fun j => pieceOf im j := by
          unfold piecesOf
          refine List.map_congr_left fun j hj => ?_
          rw [if_pos (hg j (List.mem_range.1 hj))]
        rw [e, drop_flatten im _ h2.2.2.2]
      · simp only [Bool.not_eq_true]
        rw [List.any_eq_false]
        intro j hj
        have hj' : j < total im := by simpa [stageOf, piecesOf_length] using hj
        have e := piecesOf_get came j hj'
        rw [if_pos (hg j hj')] at e
        have : ¬ (piecesOf im came).getD j [] = [] := by rw [e]; exact h.ne j hj'
        simp only [decide_eq_true_eq]
        exact this
    · rw [if_neg hall, if_pos]
      have : ∃ j, j < came.length ∧ came.getD j false = false := by
        refine Classical.byContradiction fun hno => hall (List.all_eq_true.2 fun b hb => ?_)
        obtain ⟨j, hj, rfl⟩ := List.mem_iff_getElem.1 hb
        cases hc : came[j] with
        | true => rfl
        | false => exact absurd ⟨j, hj, by simp [List.getD_eq_getElem?_getD, hj, hc]⟩ hno
      obtain ⟨j, hj, hc⟩ := this
      refine List.any_eq_true.2 ⟨j, by simp [stageOf, piecesOf_length]; omega, ?_⟩
      have e := piecesOf_get came j (im := im) (by omega)
      rw [hc] at e
      exact decide_eq_true e
  · rw [recvOf, if_neg ha, if_pos (show zeroR.on = false from rfl), if_neg]
    intro hall
    refine ha (any_id.2 ⟨0, by omega, ?_⟩)
    have := List.all_eq_true.1 hall (came[0]'(by omega)) (List.getElem_mem _)
    simpa [List.getD_eq_getElem?_getD, show 0 < came.length by omega] using this
end
section
variable {p : Int} {x : Xid} {st : Int} {im : List UInt8}
def fresh (p : Int) (x : Xid) (st : Int) (im : List UInt8) : Send := ⟨p, x, st, im, List.replicate (total im) false, 0⟩
theorem Fine.due (h : Fine p x st im) : Sp.due (fresh p x st im) = (notes p x st im, 0) := by
  have hc : cutS (fresh p x st im) = (notes p x st im, 0) := h.cut
  rw [Sp.due, if_neg]
  · refine congrArg (fun z => (z, 0)) ?_
    rw [hc, dueTo, hc]
    have e : ((List.range (notes p x st im).length).filter fun j => !(fresh p x st im).acked.getD j false) = List.range (notes p x st im).length := by
      rw [List.filter_eq_self]
      intro j hj
      simp only [fresh, List.getD_eq_getElem?_getD, List.getElem?_replicate]
      split <;> rfl
    rw [e]
    apply List.ext_getElem?
    intro j
    by_cases hj : j < (notes p x st im).length
    · simp [List.getD_eq_getElem?_getD, hj]
    · rw [List.getElem?_eq_none (by simpa using hj), List.getElem?_eq_none (by omega)]
  · simp only [goodSend, hc]; simp [fresh, notes_length]
end
end Sp
end Go.Fy
/- Plain Lean: rounds and acknowledgements of one image on its way (my own text; no program in sight). -/
set_option linter.unusedSimpArgs false
namespace Go.Fy
namespace Sp
def round (s : Send) (tries : Int) : Send × List Note × Bool × Nat :=
  if (due s).2 ≠ 0 then (zeroSend, [], false, (due s).2) else if tries ≤ s.rounds then (s, [], false, 0) else ({ s with rounds := s.rounds + 1 }, (due s).1, true, 0)
/-- An image on its way. -/
def sendOf (p : Int) (x : Xid) (st : Int) (im : List UInt8) (A : List Bool) (r : Nat) : Send := ⟨p, x, st, im, A, r⟩
/-- The pieces that still go. -/
def dueL (im : List UInt8) (A : List Bool) : List Nat := (List.range (total im)).filter fun j => !A.getD j false
def Ord (A B : List Bool) : Prop := ∀ j, A.getD j false = true → B.getD j false = true
theorem Ord.refl (A : List Bool) : Ord A A := fun _ h => h
theorem Ord.trans {A B C : List Bool} (h : Ord A B) (k : Ord B C) : Ord A C := fun j hj => k j (h j hj)
theorem Ord.set {A B : List Bool} (h : Ord A B) (k : Nat) (hk : k < A.length) (hb : B.getD k false = true) : Ord (A.set k true) B := fun j hj => by
  rw [set_get A k j hk] at hj
  split at hj
  · next e => rw [e]; exact hb
  · exact h j hj
theorem Ord.all {A B : List Bool} (h : Ord A B) (hl : A.length = B.length) (ha : A.all id = true) : B.all id = true := by
  rw [List.all_eq_true] at *
  intro b hb
  obtain ⟨j, hj, rfl⟩ := List.mem_iff_getElem.1 hb
  have h1 := ha A[j] (List.getElem_mem (by omega))
  have h2 := h j (by simpa [List.getD_eq_getElem?_getD, hl, hj] using h1)
  simpa [List.getD_eq_getElem?_getD, hj] using h2
section
variable {p : Int} {x : Xid} {st : Int} {im : List UInt8}
theorem Fine.goodSend (h : Fine p x st im) (A : List Bool) (r : Nat) (hl : A.length = total im) : Sp.goodSend (sendOf p x st im A r) = true := by
  have e := h.cut
  simp [Sp.goodSend, cutS, sendOf, e, notes_length, hl]
theorem Fine.dueOf (h : Fine p x st im) (A : List Bool) (r : Nat) (hl : A.length = total im) : Sp.due (sendOf p x st im A r) = ((dueL im A).map fun j => cutNote p x st im j j (total im), 0) := by
  have e := h.cut
  rw [Sp.due, if_neg (by rw [h.goodSend A r hl]; decide)]
  simp only [cutS, sendOf, e, dueTo, notes_length, dueL]
  congr 1
  refine List.map_congr_left fun j hj => ?_
  have := List.mem_range.1 (List.mem_filter.1 hj).1
  exact notes_get p x st im j this zero
theorem Fine.round (h : Fine p x st im) (A : List Bool) (r : Nat) (t : Int) (hl : A.length = total im) :
    Sp.round (sendOf p x st im A r) t = if t ≤ r then (sendOf p x st im A r, [], false, 0) else (sendOf p x st im A (r + 1), (dueL im A).map fun j => cutNote p x st im j j (total im), true, 0) := by
  rw [Sp.round, h.dueOf A r hl, if_neg (by simp)]
  rfl
end
end Sp
end Go.Fy
/- Plain Lean: check sums, over 32 bits (my own text; no program in sight). -/
set_option linter.unusedSimpArgs false
namespace Go.Fy
/-- A number of 32 bits. -/
def u32V (x : BitVec 32) : AV := .int .u32 (x.toNat : Int)
theorem bv_wrap (x : BitVec 32) : IntKind.u32.wrap (x.toNat : Int) = (x.toNat : Int) := by
  have := x.isLt
  simp only [IntKind.wrap, IntKind.bits, IntKind.signed]
  simp
  omega
theorem bv_ofInt (x : BitVec 32) : BitVec.ofInt 32 (x.toNat : Int) = x := by
  apply BitVec.eq_of_toNat_eq
  have := x.isLt
  simp
theorem bv_xor (x y : BitVec 32) : IntKind.u32.wrap ((BitVec.ofInt IntKind.u32.bits (x.toNat : Int) ^^^ BitVec.ofInt IntKind.u32.bits (y.toNat : Int)).toNat : Int) = ((x ^^^ y).toNat : Int) := by
  show IntKind.u32.wrap ((BitVec.ofInt 32 (x.toNat : Int) ^^^ BitVec.ofInt 32 (y.toNat : Int)).toNat : Int) = _
  rw [bv_ofInt, bv_ofInt, bv_wrap]
theorem bv_and (x y : BitVec 32) : IntKind.u32.wrap ((BitVec.ofInt IntKind.u32.bits (x.toNat : Int) &&& BitVec.ofInt IntKind.u32.bits (y.toNat : Int)).toNat : Int) = ((x &&& y).toNat : Int) := by
  show IntKind.u32.wrap ((BitVec.ofInt 32 (x.toNat : Int) &&& BitVec.ofInt 32 (y.toNat : Int)).toNat : Int) = _
  rw [bv_ofInt, bv_ofInt, bv_wrap]
theorem bv_shr (x : BitVec 32) (k : Nat) (hk : k ≤ 32) : (x.toNat : Int).fdiv (2 ^ (min (Int.toNat (k : Int)) IntKind.u32.bits)) = ((x >>> k).toNat : Int) := by
  have e : min (Int.toNat (k : Int)) IntKind.u32.bits = k := by simp [IntKind.bits]; omega
  rw [e, BitVec.toNat_ushiftRight, Nat.shiftRight_eq_div_pow, Int.fdiv_eq_ediv_of_nonneg _ (by exact Int.le_of_lt (Int.pow_pos (by decide)))]
  simp
namespace Sp
/-- One bit further. -/
def crcStep (x : BitVec 32) : BitVec 32 := if x &&& 1#32 = 1#32 then (x >>> 1) ^^^ 3988292384#32 else x >>> 1
def crcIter : Nat → BitVec 32 → BitVec 32
  | 0, x => x
  | k + 1, x => crcStep (crcIter k x)
def crcTab (i : Nat) : BitVec 32 := crcIter 8 (BitVec.ofNat 32 i)
/-- The table's place for a byte. -/
def crcIdx (reg : BitVec 32) (c : UInt8) : Nat := (reg.setWidth 8 ^^^ c.toBitVec).toNat
def crcByte (reg : BitVec 32) (c : UInt8) : BitVec 32 := crcTab (crcIdx reg c) ^^^ (reg >>> 8)
def crcMove (reg : BitVec 32) (l : List UInt8) : BitVec 32 := l.foldl crcByte reg
theorem crcIdx_lt (reg : BitVec 32) (c : UInt8) : crcIdx reg c < 256 := (reg.setWidth 8 ^^^ c.toBitVec).isLt
theorem crcMove_take (reg : BitVec 32) (l : List UInt8) (i : Nat) (h : i < l.length) : crcMove reg (l.take (i + 1)) = crcByte (crcMove reg (l.take i)) (l.getD i 0) := by
  unfold crcMove
  rw [List.take_add_one, List.foldl_append, List.getElem?_eq_getElem h]; simp [List.getD_eq_getElem?_getD, h]
end Sp
theorem bv8_idx (reg : BitVec 32) (c : UInt8) : IntKind.u8.wrap ((BitVec.ofInt IntKind.u8.bits (IntKind.u8.wrap (reg.toNat : Int)) ^^^ BitVec.ofInt IntKind.u8.bits (c.toNat : Int)).toNat : Int) = (Sp.crcIdx reg c : Int) := by
  have e1 : BitVec.ofInt 8 (IntKind.u8.wrap (reg.toNat : Int)) = reg.setWidth 8 := by
    apply BitVec.eq_of_toNat_eq
    simp [IntKind.wrap, IntKind.bits, IntKind.signed, BitVec.toNat_ofInt]
    try omega
  have e2 : BitVec.ofInt 8 (c.toNat : Int) = c.toBitVec := by
    apply BitVec.eq_of_toNat_eq
    simp
  show IntKind.u8.wrap ((BitVec.ofInt 8 (IntKind.u8.wrap (reg.toNat : Int)) ^^^ BitVec.ofInt 8 (c.toNat : Int)).toNat : Int) = _
  rw [e1, e2]
  have := Sp.crcIdx_lt reg c
  show IntKind.u8.wrap (Sp.crcIdx reg c : Int) = _
  simp only [IntKind.wrap, IntKind.bits, IntKind.signed]
  simp
  omega
theorem bv_compl (x : BitVec 32) : IntKind.u32.wrap ((BitVec.ofInt IntKind.u32.bits (if IntKind.u32.signed = true then -1 else IntKind.u32.max) ^^^ BitVec.ofInt IntKind.u32.bits (x.toNat : Int)).toNat : Int) = ((~~~x).toNat : Int) := by
  show IntKind.u32.wrap ((BitVec.allOnes 32 ^^^ BitVec.ofInt 32 (x.toNat : Int)).toNat : Int) = _
  rw [bv_ofInt, bv_wrap, BitVec.not_def]
namespace Sp
def byteOf (y : BitVec 32) : UInt8 := UInt8.ofBitVec (y.setWidth 8)
/-- The sum's four bytes, the lowest first. -/
def crcLaid (x : BitVec 32) : List UInt8 := [byteOf x, byteOf (x >>> 8), byteOf (x >>> 16), byteOf (x >>> 24)]
def crcSum (l : List UInt8) : BitVec 32 := ~~~ (crcMove (~~~ 0#32) l)
def crcSeal (l : List UInt8) : List UInt8 := l ++ crcLaid (crcSum l)
end Sp
theorem bv_byte (y : BitVec 32) : IntKind.u8.wrap (y.toNat : Int) = ((Sp.byteOf y).toNat : Int) := by
  have e : (Sp.byteOf y).toNat = y.toNat % 256 := by
    show (y.setWidth 8).toNat = _
    simp
  rw [e]
  simp only [IntKind.wrap, IntKind.bits, IntKind.signed]
  simp
end Go.Fy
/- Layer 1: the check sum's steps (walks over this dump). -/
namespace Go.Proofs.YtpmgdmbcdohgcaaDoor
attribute [local irreducible] Tryd.prog
open Go.Fy
set_option linter.unusedSimpArgs false
set_option linter.unusedVariables false
section
variable {ea : Nat → Addr} {cds : List Nat} {gl : Nat → Option AV}
theorem c93 (x : BitVec 32) : APure (V ea cds gl) 93 [u32V x] false (u32V (Sp.crcStep x)) := by
 have hs : (x.toNat : Int).fdiv (2 ^ min (Int.toNat 1) IntKind.u32.bits) = ((x >>> 1).toNat : Int) := bv_shr x 1 (by decide)
 have ha : IntKind.u32.wrap ((BitVec.ofInt IntKind.u32.bits (x.toNat : Int) &&& BitVec.ofInt IntKind.u32.bits 1).toNat : Int) = ((x &&& 1#32).toNat : Int) := bv_and x 1#32
 have hx : IntKind.u32.wrap ((BitVec.ofInt IntKind.u32.bits ((x >>> 1).toNat : Int) ^^^ BitVec.ofInt IntKind.u32.bits 3988292384).toNat : Int) = (((x >>> 1) ^^^ 3988292384#32).toNat : Int) := bv_xor (x >>> 1) 3988292384#32
 have h1 : ((x &&& 1#32).toNat : Int) = 1 ↔ x &&& 1#32 = 1#32 := by
  rw [BitVec.toNat_eq]; simp only [BitVec.toNat_ofNat]; omega
 refine acalls_of_body (N := 11) Tryd.func93 rfl rfl (Nat.le_of_ble_eq_true rfl) fun C hV hN hM hO => ?_
 obtain ⟨_, _, w0, G0, σ0, _, own0⟩ := C; dsimp only at hV hN hM hO; subst hV; subst hN; subst hM
 refine awp_seq (awp_region rfl ?_)
 refine sP (opp_as (v := .int _ _) rfl rfl) rfl rfl ?_
 refine awp_seq (awp_seq (awp_region rfl ?_))
 refine sP (opp_mv (v := .int _ _) rfl rfl) rfl rfl ?_
 refine sP (opp_arith rfl rfl rfl (.inr <| .inr <| .inr <| .inr <| .inr <| .inl ⟨rfl, rfl⟩)) rfl rfl ?_
 refine sP (opp_cmp rfl rfl rfl rfl) rfl rfl ?_
 refine awp_cond _ rfl (fun ht5 => ?_) (fun ht5 => ?_)
 ·(try simp only [cmpI, errD_nil, qa, qb, qc, qd] at ht5)
  refine awp_seq (awp_region rfl ?_)
  refine sP (opp_mv (v := .int _ _) rfl rfl) rfl rfl ?_
  refine sP (opp_shift rfl rfl rfl (by omega) (.inr ⟨rfl, rfl⟩)) rfl rfl ?_
  refine sP (opp_arith rfl rfl rfl (.inr <| .inr <| .inr <| .inr <| .inr <| .inr <| .inr <| .inl ⟨rfl, rfl⟩)) rfl rfl ?_
  refine sP (opp_as (v := .int _ _) rfl rfl) rfl rfl ?_
  refine awp_ret ?_
  repeat (first | refine athen_ret ?_ | refine ain_ret ?_)
  refine apost_ret (aend1 (r0 := .int _ _) (.tmp .nil) (.noN rfl rfl) ⟨Wk.v ?_, rfl, rfl⟩)
  rw [ha, h1] at ht5; rw [hs, hx, Sp.crcStep, if_pos ht5]; exact .refl
 ·(try simp only [cmpI, errD_nil, qa, qb, qc, qd] at ht5)
  refine awp_skip (awp_seq (awp_region rfl ?_))
  refine sP (opp_mv (v := .int _ _) rfl rfl) rfl rfl ?_
  refine sP (opp_shift rfl rfl rfl (by omega) (.inr ⟨rfl, rfl⟩)) rfl rfl ?_
  refine sP (opp_as (v := .int _ _) rfl rfl) rfl rfl ?_
  refine awp_ret ?_
  repeat (first | refine athen_ret ?_ | refine ain_ret ?_)
  refine apost_ret (aend1 (r0 := .int _ _) (.tmp .nil) (.noN rfl rfl) ⟨Wk.v ?_, rfl, rfl⟩)
  rw [ha, h1] at ht5; rw [hs, Sp.crcStep, if_neg ht5]; exact .refl
theorem co92 : AOwn (V ea cds gl) 92 [] false (.ptr 5 [] 0) [(5, some (.arr 1 256 (fun j => u32V (Sp.crcTab j))))] := by
 refine aown_of_body (N := 23) Tryd.func92 rfl rfl (Nat.le_of_ble_eq_true rfl) fun C hV hN hM hO => ?_
 obtain ⟨_, _, w0, G0, σ0, _, own0⟩ := C; dsimp only at hV hN hM hO; subst hV; subst hN; subst hM
 refine awp_seq (awp_region rfl ?_)
 first | refine sP (opp_as (v := .ptr _ _ _) rfl rfl) rfl rfl ?_ | refine sP (opp_as (v := .val _) rfl rfl) rfl rfl ?_
 refine awp_seq (awp_region rfl ?_)
 refine sP (opp_buildArr rfl z185 un185 (by kernel_rfl)) rfl rfl ?_
 refine sR (opr_box (y := .arr _ _ _) (n := 5) rfl rfl rfl) rfl rfl rfl ?_
 refine sP (opp_as (v := .ptr _ _ _) rfl rfl) rfl rfl ?_
 refine awp_seq (awp_seq (awp_region rfl ?_))
 refine sP (opp_mv (v := .int _ _) rfl rfl) rfl rfl ?_
 refine awp_block ?_
 refine awp_loopK (ι := Nat) (fun i => i ≤ 256) (fun i => [(2, .top), (3, .top), (6, .int .i64 i), (7, .top), (8, .top), (9, .top), (10, .top), (11, .top), (12, .top), (13, .top), (14, .top), (15, .top), (16, .top), (17, .top), (18, .top), (19, .top), (20, .top), (21, .top)]) (fun i => [(5, some (.arr 1 256 (fun j => u32V (if j < i then Sp.crcTab j else 0#32))))]) [] (fun i => 256 - i) (0) (Nat.zero_le _) (by
  refine imp_over [] rfl rfl (by kernel_rfl) ?_ ?_
  ·iterate 18 refine And.intro wkv ?_
   exact True.intro
  ·refine And.intro (And.intro rfl (And.intro rfl (Exists.intro _ (And.intro rfl (by exact WkC.arr (fun j hj => by simp [u32V])))))) ?_
   exact True.intro
  ) ?_
 intro i hi1
 refine awp_seq (awp_region rfl ?_)
 refine sP (opp_cmp rfl rfl rfl rfl) rfl rfl ?_
 refine awp_seq ?_
 refine awp_cond _ rfl (fun ht7 => ?_) (fun ht7 => ?_)
 ·(try simp only [cmpI, errD_nil, qa, qb, qc, qd] at ht7)
  refine awp_skip (awp_seq (awp_block (awp_seq (awp_region rfl ?_))))
  refine sP (opp_mv (v := .int _ _) rfl rfl) rfl rfl ?_
  refine sP (opp_as (v := .int _ _) rfl rfl) rfl rfl ?_
  refine awp_seq (awp_region rfl ?_)
  refine sP (opp_mv (v := .int _ _) rfl rfl) rfl rfl ?_
  refine sP (opp_convInt rfl rfl un3s un45 (wu32 (by omega))) rfl rfl ?_
  refine sP (opp_as (v := .int _ _) rfl rfl) rfl rfl ?_
  refine awp_seq (awp_seq (awp_region rfl ?_))
  refine sP (opp_mv (v := .int _ _) rfl rfl) rfl rfl ?_
  refine awp_block ?_
  refine awp_loopK (ι := Nat) (fun k => k ≤ 8) (fun k => [(3, u32V (Sp.crcIter k (BitVec.ofNat 32 i))), (11, .int .i64 k), (12, .top), (13, .top), (14, .top), (15, .top)]) (fun k => []) [] (fun k => 8 - k) (0) (Nat.zero_le _) (by
   refine imp_over [] rfl rfl (by kernel_rfl) ?_ ?_
   ·refine And.intro (by exact Or.inr (And.intro rfl (WkV.of (by show AV.int .u32 _ = AV.int .u32 _; simp [Sp.crcIter]; omega)))) ?_
    iterate 5 refine And.intro wkv ?_
    exact True.intro
   ·exact True.intro
   ) ?_
  intro k hi2
  refine awp_seq (awp_region rfl ?_)
  refine sP (opp_cmp rfl rfl rfl rfl) rfl rfl ?_
  refine awp_seq ?_
  refine awp_cond _ rfl (fun ht12 => ?_) (fun ht12 => ?_)
  ·(try simp only [cmpI, errD_nil, qa, qb, qc, qd] at ht12)
   refine awp_skip (awp_seq (awp_block (awp_region rfl ?_)))
   refine sP (opp_mv (v := .int _ _) rfl rfl) rfl rfl ?_
   refine sR (opr_call rfl rfl ent93 rfl (c93 (Sp.crcIter k (BitVec.ofNat 32 i))) (AViews.refl _ rfl)) rfl rfl rfl ?_ -- d=14 t=45 a=13
   refine sP (opp_as (v := .int _ _) rfl rfl) rfl rfl ?_
   refine awp_region rfl ?_
   refine sP (opp_arith rfl rfl rfl (.inl ⟨rfl, w64 (by omega)⟩)) rfl rfl ?_
   refine sP (opp_mv (v := .int _ _) rfl rfl) rfl rfl ?_
   refine Exists.intro (k + 1) (And.intro (And.intro ((by show k + 1 ≤ 8; omega)) (by first | omega | (dsimp only; omega))) (by
    refine imp_over [] rfl rfl (by kernel_rfl) ?_ ?_
    ·iterate 6 refine And.intro wkv ?_
     exact True.intro
    ·exact True.intro
    ))
  ·(try simp only [cmpI, errD_nil, qa, qb, qc, qd] at ht12)
   refine awp_exit ?_
   have hk8 : k = 8 := by omega
   subst hk8
   refine awp_region rfl ?_
   refine sP (opp_mv (v := .ptr _ _ _) rfl rfl) rfl rfl ?_
   refine sP (opp_mv (v := .int _ _) rfl rfl) rfl rfl ?_
   refine sP (opp_mv (v := .int _ _) rfl rfl) rfl rfl ?_
   refine sP (opp_nilCheckP rfl rfl) rfl rfl ?_
   refine sP (opp_indexArrP rfl rfl rfl arr185 (by omega) (by omega)) rfl rfl ?_
   refine sR0 (opr_storeA (v := .int _ _) rfl rfl rfl (by omega) (by first | rfl | omega) rfl rfl rfl rfl ty45) rfl rfl rfl ?_
   refine awp_region rfl ?_
   refine sP (opp_arith rfl rfl rfl (.inl ⟨rfl, w64 (by omega)⟩)) rfl rfl ?_
   refine sP (opp_mv (v := .int _ _) rfl rfl) rfl rfl ?_
   refine Exists.intro (i + 1) (And.intro (And.intro ((by show i + 1 ≤ 256; omega)) (by first | omega | (dsimp only; omega))) (by
    refine imp_over [] rfl rfl (by kernel_rfl) ?_ ?_
    ·iterate 18 refine And.intro wkv ?_
     exact True.intro
    ·refine And.intro (And.intro rfl (And.intro rfl (Exists.intro _ (And.intro rfl (by exact WkC.arr (fun j hj => by by_cases e : j = i; (subst e; simp [Sp.crcTab, u32V]); simp [e, show j < i + 1 ↔ j < i by omega])))))) ?_
     exact True.intro
    ))
 ·(try simp only [cmpI, errD_nil, qa, qb, qc, qd] at ht7)
  refine awp_exit (awp_seq (awp_region rfl ?_))
  refine sP (opp_mv (v := .ptr _ _ _) rfl rfl) rfl rfl ?_
  first | refine sP (opp_as (v := .ptr _ _ _) rfl rfl) rfl rfl ?_ | refine sP (opp_as (v := .val _) rfl rfl) rfl rfl ?_
  refine awp_ret ?_
  repeat (first | refine athen_ret ?_ | refine ain_ret ?_)
  refine opost_ret (oend1 (r0 := .ptr 5 [] 0) (.tmp .nil) (Shut.refl sfr) rfl ?_ (And.intro (Exists.intro _ (Exists.intro _ (And.intro rfl (And.intro shut (And.intro (fun h => by cases h) (And.intro ?_ rfl)))))) True.intro))
  ·exact .refl
  ·exact .arr (fun j hj => by rw [if_pos (show j < i by omega)])
theorem c87 (x : BitVec 32) (b : Bool) (im : List UInt8) (h0 : im.length ≤ 281474976710656) : APure (V ea cds gl) 87 [u32V x, .sl 1 b im.length (bAt im)] false (u32V (Sp.crcMove x im)) := by
 refine acalls_of_body (N := 32) Tryd.func87 rfl rfl (Nat.le_of_ble_eq_true rfl) fun C hV hN hM hO => ?_
 obtain ⟨_, _, w0, G0, σ0, _, own0⟩ := C; dsimp only at hV hN hM hO; subst hV; subst hN; subst hM
 refine awp_seq (awp_region rfl ?_)
 refine sP (opp_as (v := .int _ _) rfl rfl) rfl rfl ?_
 refine awp_seq (awp_seq (awp_region rfl ?_))
 refine sP (opp_mv (v := .sl _ _ _ _) rfl rfl) rfl rfl ?_
 refine sP (opp_lenSl rfl rfl un38) rfl rfl ?_
 refine sP (opp_cmp rfl rfl rfl rfl) rfl rfl ?_
 refine awp_cond _ rfl (fun ht10 => ?_) (fun ht10 => ?_)
 ·(try simp only [cmpI, errD_nil, qa, qb, qc, qd] at ht10)
  refine awp_seq (awp_region rfl ?_)
  refine sP (opp_mv (v := .int _ _) rfl rfl) rfl rfl ?_
  refine sP (opp_as (v := .int _ _) rfl rfl) rfl rfl ?_
  refine awp_ret ?_
  repeat (first | refine athen_ret ?_ | refine ain_ret ?_)
  refine apost_ret (aend1 (r0 := .int _ _) (.tmp .nil) (.noN rfl rfl) ⟨Wk.v ?_, rfl, rfl⟩)
  have hl0 : im = [] := List.length_eq_zero_iff.1 (by omega)
  subst hl0; exact .refl
 ·(try simp only [cmpI, errD_nil, qa, qb, qc, qd] at ht10)
  refine awp_skip (awp_seq (awp_region rfl ?_))
  refine sR (opr_callO (rl := [(5, 12)]) (r1 := .ptr _ _ _) (H1 := [(12, some (.arr _ _ _))]) (n1 := [12]) rfl rfl ent92 rfl co92 (AViews.refl _ rfl) rfl rfl rfl rfl) rfl rfl rfl ?_
  refine sP (opp_as (v := .ptr _ _ _) rfl rfl) rfl rfl ?_
  refine awp_seq (awp_seq (awp_region rfl ?_))
  refine sP (opp_mv (v := .sl _ _ _ _) rfl rfl) rfl rfl ?_
  refine sP (opp_lenSl rfl rfl un38) rfl rfl ?_
  refine sP (opp_mv (v := .int _ _) rfl rfl) rfl rfl ?_
  refine awp_block ?_
  refine awp_loopK (ι := Nat) (fun i => i ≤ im.length) (fun i => [(0, u32V (Sp.crcMove x (im.take i))), (7, .top), (15, .int .i64 i), (16, .top), (17, .top), (18, .top), (19, .top), (20, .top), (21, .top), (22, .top), (23, .top), (24, .top), (25, .top), (26, .top), (27, .top), (28, .top), (29, .top), (30, .top)]) (fun i => []) [] (fun i => im.length - i) (0) (Nat.zero_le _) (by
   refine imp_over [] rfl rfl (by kernel_rfl) ?_ ?_
   ·iterate 18 refine And.intro wkv ?_
    exact True.intro
   ·exact True.intro
   ) ?_
  intro i hi1; have hsx : ((Sp.crcMove x (im.take i)).toNat : Int).fdiv (2 ^ min (Int.toNat 8) IntKind.u32.bits) = ((Sp.crcMove x (im.take i) >>> 8).toNat : Int) := bv_shr _ 8 (by decide); have hix := bv8_idx (Sp.crcMove x (im.take i)) (im.getD (Int.toNat (i : Int)) 0); have hil := Sp.crcIdx_lt (Sp.crcMove x (im.take i)) (im.getD (Int.toNat (i : Int)) 0)
  refine awp_seq (awp_region rfl ?_)
  refine sP (opp_cmp rfl rfl rfl rfl) rfl rfl ?_
  refine awp_seq ?_
  refine awp_cond _ rfl (fun ht16 => ?_) (fun ht16 => ?_)
  ·(try simp only [cmpI, errD_nil, qa, qb, qc, qd] at ht16)
   refine awp_skip (awp_seq (awp_block (awp_seq (awp_region rfl ?_))))
   refine sP (opp_indexSl rfl rfl rfl el38 (by omega) (by omega)) rfl rfl ?_
   refine sP (opp_loadF rfl rfl ty5) rfl rfl ?_
   refine sP (opp_as (v := .int _ _) rfl rfl) rfl rfl ?_
   refine awp_region rfl ?_
   refine sP (opp_mv (v := .ptr _ _ _) rfl rfl) rfl rfl ?_
   refine sP (opp_mv (v := .int _ _) rfl rfl) rfl rfl ?_
   refine sP (opp_convInt rfl rfl un45s un5 rfl) rfl rfl ?_
   refine sP (opp_mv (v := .int _ _) rfl rfl) rfl rfl ?_
   refine sP (opp_arith rfl rfl rfl (.inr <| .inr <| .inr <| .inr <| .inr <| .inr <| .inr <| .inl ⟨rfl, rfl⟩)) rfl rfl ?_
   rw [hix]
   refine sP (opp_nilCheckP rfl rfl) rfl rfl ?_
   refine sP (opp_indexArrP rfl rfl rfl arr185 (by omega) (by omega)) rfl rfl ?_
   refine sP (opp_loadP rfl rfl rfl rfl bi (by simp [offP]) ty45) rfl rfl ?_
   refine sP (opp_mv (v := .int _ _) rfl rfl) rfl rfl ?_
   refine sP (opp_shift rfl rfl rfl (by omega) (.inr ⟨rfl, rfl⟩)) rfl rfl ?_
   refine sP (opp_arith rfl rfl rfl (.inr <| .inr <| .inr <| .inr <| .inr <| .inr <| .inr <| .inl ⟨rfl, rfl⟩)) rfl rfl ?_
   refine sP (opp_as (v := .int _ _) rfl rfl) rfl rfl ?_
   refine awp_region rfl ?_
   refine sP (opp_arith rfl rfl rfl (.inl ⟨rfl, w64 (by omega)⟩)) rfl rfl ?_
   refine sP (opp_mv (v := .int _ _) rfl rfl) rfl rfl ?_
   refine Exists.intro (i + 1) (And.intro (And.intro ((by show i + 1 ≤ im.length; omega)) (by first | omega | (dsimp only; omega))) (by
    refine imp_over [] rfl rfl (by kernel_rfl) ?_ ?_
    ·refine And.intro (by exact Or.inr (And.intro rfl (WkV.of (by show AV.int .u32 (IntKind.u32.wrap ((BitVec.ofInt IntKind.u32.bits ((Sp.crcTab (Int.toNat (Sp.crcIdx (Sp.crcMove x (im.take i)) (im.getD (Int.toNat (i : Int)) 0) : Int))).toNat : Int) ^^^ BitVec.ofInt IntKind.u32.bits (((Sp.crcMove x (im.take i)).toNat : Int).fdiv (2 ^ min (Int.toNat 8) IntKind.u32.bits))).toNat : Int)) = u32V (Sp.crcMove x (im.take (i + 1))); rw [hsx, bv_xor, Int.toNat_natCast, Int.toNat_natCast, Sp.crcMove_take x im i (by omega)]; rfl)))) ?_
     iterate 17 refine And.intro wkv ?_
     exact True.intro
    ·exact True.intro
    ))
  ·(try simp only [cmpI, errD_nil, qa, qb, qc, qd] at ht16)
   refine awp_exit (awp_seq (awp_region rfl ?_))
   refine sP (opp_mv (v := .int _ _) rfl rfl) rfl rfl ?_
   refine sP (opp_as (v := .int _ _) rfl rfl) rfl rfl ?_
   refine awp_ret ?_
   repeat (first | refine athen_ret ?_ | refine ain_ret ?_)
   refine apost_ret (aend1 (r0 := .int _ _) (.tmp .nil) (.noN rfl rfl) ⟨Wk.v ?_, rfl, rfl⟩)
   have hi2 : i = im.length := by omega
   subst hi2; rw [List.take_length]; exact .refl
theorem c73 (s : BitVec 32) (b : Bool) (im : List UInt8) (h0 : im.length ≤ 281474976710656) : APure (V ea cds gl) 73 [u32V s, .sl 1 b im.length (bAt im)] false (u32V (~~~ (Sp.crcMove (~~~ s) im))) := by
 have hcs := bv_compl s
 have hcm := bv_compl (Sp.crcMove (~~~ s) im)
 refine acalls_of_body (N := 10) Tryd.func73 rfl rfl (Nat.le_of_ble_eq_true rfl) fun C hV hN hM hO => ?_
 obtain ⟨_, _, w0, G0, σ0, _, own0⟩ := C; dsimp only at hV hN hM hO; subst hV; subst hN; subst hM
 refine awp_seq (awp_region rfl ?_)
 refine sP (opp_as (v := .int _ _) rfl rfl) rfl rfl ?_
 refine awp_seq (awp_region rfl ?_)
 refine sP (opp_mv (v := .int _ _) rfl rfl) rfl rfl ?_
 refine sP (opp_compl (n := ((~~~ s).toNat : Int)) rfl rfl hcs) rfl rfl ?_
 refine sP (opp_mv (v := .sl _ _ _ _) rfl rfl) rfl rfl ?_
 refine sR (opr_call rfl rfl ent87 rfl (c87 (~~~ s) b im h0) (AViews.refl _ rfl)) rfl rfl rfl ?_ -- d=8 t=45 a=6,7
 refine sP (opp_compl (n := ((~~~ (Sp.crcMove (~~~ s) im)).toNat : Int)) rfl rfl hcm) rfl rfl ?_
 refine sP (opp_as (v := .int _ _) rfl rfl) rfl rfl ?_
 refine awp_ret ?_
 repeat (first | refine athen_ret ?_ | refine ain_ret ?_)
 refine apost_ret (aend1 (r0 := .int _ _) (.tmp .nil) (.noN rfl rfl) ⟨Wk.v ?_, rfl, rfl⟩)
 exact .refl
theorem c48 (b : Bool) (im : List UInt8) (h0 : im.length ≤ 281474976710656) : APure (V ea cds gl) 48 [.sl 1 b im.length (bAt im)] false (u32V (~~~ (Sp.crcMove (~~~ 0#32) im))) := by
 refine acalls_of_body (N := 5) Tryd.func48 rfl rfl (Nat.le_of_ble_eq_true rfl) fun C hV hN hM hO => ?_
 obtain ⟨_, _, w0, G0, σ0, _, own0⟩ := C; dsimp only at hV hN hM hO; subst hV; subst hN; subst hM
 refine awp_seq (awp_region rfl ?_)
 refine sP (opp_as (v := .int _ _) rfl rfl) rfl rfl ?_
 refine awp_seq (awp_region rfl ?_)
 refine sP (opp_mv (v := .sl _ _ _ _) rfl rfl) rfl rfl ?_
 refine sR (opr_call rfl rfl ent73 rfl (c73 0#32 b im h0) (AViews.refl _ rfl)) rfl rfl rfl ?_ -- d=4 t=45 a=x,3
 refine sP (opp_as (v := .int _ _) rfl rfl) rfl rfl ?_
 refine awp_ret ?_
 repeat (first | refine athen_ret ?_ | refine ain_ret ?_)
 refine apost_ret (aend1 (r0 := .int _ _) (.tmp .nil) (.noN rfl rfl) ⟨Wk.v ?_, rfl, rfl⟩)
 exact .refl
theorem co66 (x : BitVec 32) : AOwn (V ea cds gl) 66 [u32V x] false (.osl 14 1 0 4 4) [(14, some (.arr 1 4 (bAt (Sp.crcLaid x))))] := by
 have h0 := bv_byte x
 have s1 : (x.toNat : Int).fdiv (2 ^ min (Int.toNat 8) IntKind.u32.bits) = ((x >>> 8).toNat : Int) := bv_shr x 8 (by decide)
 have s2 : (x.toNat : Int).fdiv (2 ^ min (Int.toNat 16) IntKind.u32.bits) = ((x >>> 16).toNat : Int) := bv_shr x 16 (by decide)
 have s3 : (x.toNat : Int).fdiv (2 ^ min (Int.toNat 24) IntKind.u32.bits) = ((x >>> 24).toNat : Int) := bv_shr x 24 (by decide)
 refine aown_of_body (N := 15) Tryd.func66 rfl rfl (Nat.le_of_ble_eq_true rfl) fun C hV hN hM hO => ?_
 obtain ⟨_, _, w0, G0, σ0, _, own0⟩ := C; dsimp only at hV hN hM hO; subst hV; subst hN; subst hM
 refine awp_seq (awp_region rfl ?_)
 refine sP (opp_as (v := .sl _ _ _ _) rfl rfl) rfl rfl ?_
 refine awp_seq (awp_region rfl ?_)
 refine sP (opp_mv (v := .int _ _) rfl rfl) rfl rfl ?_
 refine sP (opp_convInt rfl rfl un45s un5 rfl) rfl rfl ?_
 refine sP (opp_mv (v := .int _ _) rfl rfl) rfl rfl ?_
 refine sP (opp_shift rfl rfl rfl (by omega) (.inr ⟨rfl, rfl⟩)) rfl rfl ?_
 refine sP (opp_convInt rfl rfl un45s un5 rfl) rfl rfl ?_
 refine sP (opp_mv (v := .int _ _) rfl rfl) rfl rfl ?_
 refine sP (opp_shift rfl rfl rfl (by omega) (.inr ⟨rfl, rfl⟩)) rfl rfl ?_
 refine sP (opp_convInt rfl rfl un45s un5 rfl) rfl rfl ?_
 refine sP (opp_mv (v := .int _ _) rfl rfl) rfl rfl ?_
 refine sP (opp_shift rfl rfl rfl (by omega) (.inr ⟨rfl, rfl⟩)) rfl rfl ?_
 refine sP (opp_convInt rfl rfl un45s un5 rfl) rfl rfl ?_
 refine sR (opr_buildSlice (n := 14) (g := fun j => if j = 3 then .int _ _ else if j = 2 then .int _ _ else if j = 1 then .int _ _ else if j = 0 then .int _ _ else .int .u8 0) rfl eb38 z5 (by decide) rfl rfl) rfl rfl rfl ?_
 refine sP (opp_as (v := .osl _ _ _ _ _) rfl rfl) rfl rfl ?_
 refine awp_ret ?_
 repeat (first | refine athen_ret ?_ | refine ain_ret ?_)
 refine opost_ret (oend1 (r0 := .osl _ _ _ _ _) (.tmp .nil) shut rfl ?_ (And.intro (Exists.intro _ (Exists.intro _ (And.intro rfl (And.intro shut (And.intro (fun h => by cases h) (And.intro ?_ rfl)))))) True.intro))
 ·exact .refl
 ·refine .arr (fun j hj => ?_)
  rw [s1, s2, s3, bv_byte, bv_byte, bv_byte, bv_byte]
  rcases j with _ | _ | _ | _ | j
  ·rfl
  ·rfl
  ·rfl
  ·rfl
  ·exact absurd hj (by omega)
theorem c36 (im : List UInt8) (h0 : im.length ≤ 1099511627776) : APure (V ea cds gl) 36 [.sl 1 false im.length (bAt im)] false (.sl 1 false (Sp.crcSeal im).length (bAt (Sp.crcSeal im))) := by
 refine acalls_of_body (N := 9) Tryd.func36 rfl rfl (Nat.le_of_ble_eq_true rfl) fun C hV hN hM hO => ?_
 obtain ⟨_, _, w0, G0, σ0, _, own0⟩ := C; dsimp only at hV hN hM hO; subst hV; subst hN; subst hM
 refine awp_seq (awp_region rfl ?_)
 refine sP (opp_as (v := .sl _ _ _ _) rfl rfl) rfl rfl ?_
 refine awp_seq (awp_region rfl ?_)
 refine sP (opp_mv (v := .sl _ _ _ _) rfl rfl) rfl rfl ?_
 refine sR (opr_callO (rl := [(7, 4)]) (r1 := .osl _ _ _ _ _) (H1 := [(4, some (.arr _ _ _))]) (n1 := [4]) rfl rfl ent65 rfl (co65 im.length (bAt im) (by omega)) (AViews.refl _ rfl) rfl rfl rfl rfl) rfl rfl rfl ?_
 refine sP (opp_mv (v := .sl _ _ _ _) rfl rfl) rfl rfl ?_
 refine sR (opr_call rfl rfl ent48 rfl (c48 false im (by omega)) (AViews.refl _ rfl)) rfl rfl rfl ?_ -- d=6 t=45 a=5
 refine sR (opr_callO (rl := [(14, 7)]) (r1 := .osl _ _ _ _ _) (H1 := [(7, some (.arr _ _ _))]) (n1 := [7]) rfl rfl ent66 rfl (co66 (Sp.crcSum im)) (AViews.refl _ rfl) rfl rfl rfl rfl) rfl rfl rfl ?_
 refine sR (opr_append (d := 8) rfl rfl rfl (by omega) (.osl0 rfl (by omega)) eb38 z5 (by omega) (by omega)) rfl rfl rfl ?_
 refine sP (opp_as (v := .osl _ _ _ _ _) rfl rfl) rfl rfl ?_
 refine awp_ret ?_
 repeat (first | refine athen_ret ?_ | refine ain_ret ?_)
 refine apost_ret (aend1s (r0 := .osl _ _ _ _ _) (.tmp .nil) shut rfl ⟨Wk.v ?_, rfl, rfl⟩)
 have hl : (Sp.crcSeal im).length = im.length + 4 := by simp [Sp.crcSeal, Sp.crcLaid]
 rw [hl]; (repeat' (first | exact Wk.refl | exact Wk.sl0 | apply Wk.tup | apply Wk.agg | apply WkL.cons | exact WkL.nil | refine Wk.sl (fun _ _ => ?_)))
 rename_i j hj
 by_cases h1 : j < im.length
 ·simp [bAt, Sp.crcSeal, h1, List.getD_eq_getElem?_getD, List.getElem?_append_left]
 ·simp [bAt, Sp.crcSeal, h1, List.getD_eq_getElem?_getD, List.getElem?_append_right (Nat.le_of_not_lt h1)]
end
end Go.Proofs.YtpmgdmbcdohgcaaDoor
/- Plain Lean: numbers in bytes, notes in bytes (my own text; no program in sight). -/
set_option linter.unusedSimpArgs false
namespace Go.Fy
namespace Sp
/-- A number in w bytes, the highest first. -/
def be (n : Nat) : Nat → List UInt8
  | 0 => []
  | w + 1 => be (n / 256) w ++ [UInt8.ofNat (n % 256)]
/-- The number of bytes. -/
def num (l : List UInt8) : Nat := l.foldl (fun n c => n * 256 + c.toNat) 0
theorem be_length (n w : Nat) : (be n w).length = w := by
  induction w generalizing n with
  | zero => rfl
  | succ w ih => simp [be, ih]
theorem num_snoc (l : List UInt8) (c : UInt8) : num (l ++ [c]) = num l * 256 + c.toNat := by simp [num, List.foldl_append]
theorem num_be (n w : Nat) (h : n < 256 ^ w) : num (be n w) = n := by
  induction w generalizing n with
  | zero => simp at h; subst h; rfl
  | succ w ih =>
    rw [be, num_snoc, ih (n / 256) (by rw [Nat.div_lt_iff_lt_mul (by decide)]; rw [Nat.pow_succ] at h; exact h)]
    have : (UInt8.ofNat (n % 256)).toNat = n % 256 := by simp
    rw [this]; omega
theorem snoc_ind {P : List UInt8 → Prop} (h0 : P []) (h1 : ∀ l c, P l → P (l ++ [c])) : ∀ l, P l := by
  intro l
  have : ∀ n, ∀ l : List UInt8, l.length = n → P l := by
    intro n
    induction n with
    | zero => intro l hl; rw [List.length_eq_zero_iff.1 hl]; exact h0
    | succ n ih =>
      intro l hl
      have hne : l ≠ [] := fun h => by rw [h] at hl; cases hl
      rw [← List.dropLast_concat_getLast hne]
      exact h1 _ _ (ih _ (by rw [List.length_dropLast, hl]; rfl))
  exact this _ l rfl
theorem num_lt (l : List UInt8) : num l < 256 ^ l.length := by
  refine snoc_ind (P := fun l => num l < 256 ^ l.length) (by decide) (fun l c ih => ?_) l
  · skip
    rw [num_snoc, List.length_append, List.length_singleton, Nat.pow_succ]
    have := c.toNat_lt
    omega
theorem be_getD (n : Nat) : ∀ (w j : Nat), j < w → (be n w).getD j 0 = UInt8.ofNat (n / 256 ^ (w - 1 - j) % 256) := by
  intro w
  induction w generalizing n with
  | zero => intro j hj; omega
  | succ w ih =>
    intro j hj
    rw [be, List.getD_eq_getElem?_getD, List.getElem?_append, be_length]
    by_cases h : j < w
    · rw [if_pos h]
      have := ih (n / 256) j h
      rw [List.getD_eq_getElem?_getD] at this
      rw [this, Nat.div_div_eq_div_mul, show w + 1 - 1 - j = (w - 1 - j) + 1 by omega, Nat.pow_succ, Nat.mul_comm]
    · have : j = w := by omega
      subst this
      rw [if_neg h]; simp
/-- Sealed bytes opened: the bytes, the number of the error. -/
def opened (s : List UInt8) : List UInt8 × Nat :=
  if s.length < 4 then ([], 1) else if crcLaid (crcSum (s.take (s.length - 4))) ≠ s.drop (s.length - 4) then ([], 6) else (s.take (s.length - 4), 0)
theorem opened_seal (l : List UInt8) : opened (crcSeal l) = (l, 0) := by
  have hl : (crcSeal l).length = l.length + 4 := by simp [crcSeal, crcLaid]
  have ht : (crcSeal l).take ((crcSeal l).length - 4) = l := by rw [hl]; simp [crcSeal]
  have hd : (crcSeal l).drop ((crcSeal l).length - 4) = crcLaid (crcSum l) := by rw [hl]; simp [crcSeal]
  unfold opened
  rw [if_neg (by omega), ht, hd, if_neg (by simp)]
theorem opened_ok {s : List UInt8} (h : (opened s).2 = 0) : 4 ≤ s.length ∧ (opened s).1 = s.take (s.length - 4) ∧ s = crcSeal (s.take (s.length - 4)) := by
  unfold opened at h ⊢
  by_cases h1 : s.length < 4
  · rw [if_pos h1] at h; cases h
  · rw [if_neg h1] at h ⊢
    by_cases h2 : crcLaid (crcSum (s.take (s.length - 4))) ≠ s.drop (s.length - 4)
    · rw [if_pos h2] at h; cases h
    · rw [if_neg h2] at h ⊢
      refine ⟨by omega, rfl, ?_⟩
      have h2 := Decidable.of_not_not h2
      rw [crcSeal, h2, List.take_append_drop]
/-- A field: w bytes from a place on. -/
def fld (s : List UInt8) (a w : Nat) : Nat := num ((s.drop a).take w)
/-- The note's bytes, but the sum. -/
def noteBytes (n : Note) : List UInt8 :=
  be (27 + n.data.length) 2 ++ (be n.kind.toNat 1 ++ (be n.part.toNat 1 ++ (be n.xid.boot.toNat 4 ++ (be n.xid.peer.toNat 4 ++ (be n.xid.num.toNat 4 ++ (be n.stage.toNat 1 ++ (be n.index.toNat 1 ++ (be n.total.toNat 1 ++ (be n.sum.toNat 4 ++ n.data)))))))))
def put (n : Note) : List UInt8 × Nat := if check n ≠ 0 then ([], check n) else (crcSeal (noteBytes n), 0)
/-- The note that stands in bytes (without the sum). -/
def noteOf (b : List UInt8) : Note := ⟨fld b 2 1, fld b 3 1, ⟨fld b 4 4, fld b 8 4, fld b 12 4⟩, fld b 16 1, fld b 17 1, fld b 18 1, fld b 19 4, b.drop 23⟩
def get (s : List UInt8) : Note × Nat :=
  if (opened s).2 ≠ 0 then (zero, (opened s).2) else if s.length < 27 then (zero, 1) else if fld (opened s).1 0 2 ≠ s.length then (zero, 5)
  else if check (noteOf (opened s).1) ≠ 0 then (zero, check (noteOf (opened s).1)) else (noteOf (opened s).1, 0)
theorem fld_append (a b : List UInt8) (k w : Nat) (h : a.length ≤ k) : fld (a ++ b) k w = fld b (k - a.length) w := by
  unfold fld
  rw [List.drop_append, List.drop_eq_nil_of_le h, List.nil_append]
theorem fld_head (a b : List UInt8) (w : Nat) (h : a.length = w) : fld (a ++ b) 0 w = num a := by
  subst h
  simp [fld]
end Sp
end Go.Fy
/- Layer 1: sealed bytes are opened (walks over this dump). -/
namespace Go.Proofs.YtpmgdmbcdohgcaaDoor
attribute [local irreducible] Tryd.prog
open Go.Fy
set_option linter.unusedSimpArgs false
set_option linter.unusedVariables false
section
variable {ea : Nat → Addr} {cds : List Nat} {gl : Nat → Option AV}
theorem c71 (x y : Bool) (a b : List UInt8) : APure (V ea cds gl) 71 [.sl 1 x a.length (bAt a), .sl 1 y b.length (bAt b)] true (.bool (decide (a = b))) := by
 refine acalls_of_body (N := 10) Tryd.func71 rfl rfl (Nat.le_of_ble_eq_true rfl) fun C hV hN hM hO => ?_
 obtain ⟨_, _, w0, G0, σ0, _, own0⟩ := C; dsimp only at hV hN hM hO; subst hV; subst hN; subst hM
 refine awp_seq (awp_region rfl ?_)
 refine sP (opp_as (v := .bool _) rfl rfl) rfl rfl ?_
 refine awp_seq (awp_region rfl ?_)
 refine sP (opp_mv (v := .sl _ _ _ _) rfl rfl) rfl rfl ?_
 refine sP (opp_bytesStr rfl rfl _ rfl (fun j hj => rfl) un38 unu8 un9) rfl rfl ?_
 refine sP (opp_mv (v := .sl _ _ _ _) rfl rfl) rfl rfl ?_
 refine sP (opp_bytesStr rfl rfl _ rfl (fun j hj => rfl) un38 unu8 un9) rfl rfl ?_
 refine sP (opp_strEq rfl rfl rfl (.inl ⟨rfl, rfl⟩)) rfl rfl ?_
 refine sP (opp_as (v := .bool _) rfl rfl) rfl rfl ?_
 refine awp_ret ?_
 repeat (first | refine athen_ret ?_ | refine ain_ret ?_)
 refine apost_ret (aend1s (r0 := .bool _) (.tmp .nil) shut rfl ⟨Wk.v ?_, rfl, rfl⟩)
 exact .of (congrArg AV.bool (by first | rfl | simp))
/-- A part of a row. -/
theorem bAt_take (l : List UInt8) (k j : Nat) (h : j < k) : bAt (l.take k) j = bAt l j := by simp [bAt, List.getD_eq_getElem?_getD, List.getElem?_take, h]
theorem bAt_drop (l : List UInt8) (k j : Nat) : bAt (l.drop k) j = bAt l (k + j) := by simp [bAt, List.getD_eq_getElem?_getD]
theorem wk_slx {z n n' : Nat} {b : Bool} {f f' : Nat → AV} (hn : n = n') (h : ∀ j, j < n → f j = f' j) : Wk (.sl z b n f) (.sl z b n' f') := by
  subst hn; exact .sl h
theorem c44 (s : List UInt8) (h0 : s.length ≤ 140737488355328) (hG2 : gl 2 = some (.err (.code 1))) (hG5 : gl 5 = some (.err (.code 6))) :
  APure (V ea cds gl) 44 [.sl 1 false s.length (bAt s)] false (.tup [.sl 1 (decide ((Sp.opened s).2 ≠ 0)) (Sp.opened s).1.length (bAt (Sp.opened s).1), .err (errD (Sp.opened s).2)]) := by
 refine acalls_of_body (N := 26) Tryd.func44 rfl rfl (Nat.le_of_ble_eq_true rfl) fun C hV hN hM hO => ?_
 obtain ⟨_, _, w0, G0, σ0, _, own0⟩ := C; dsimp only at hV hN hM hO; subst hV; subst hN; subst hM
 refine awp_seq (awp_region rfl ?_)
 refine sP (opp_as (v := .sl _ _ _ _) rfl rfl) rfl rfl ?_
 refine sP (opp_as (v := .err _) rfl rfl) rfl rfl ?_
 refine awp_seq (awp_seq (awp_region rfl ?_))
 refine sP (opp_mv (v := .sl _ _ _ _) rfl rfl) rfl rfl ?_
 refine sP (opp_lenSl rfl rfl un38) rfl rfl ?_
 refine sP (opp_cmp rfl rfl rfl rfl) rfl rfl ?_
 refine awp_cond _ rfl (fun ht7 => ?_) (fun ht7 => ?_)
 ·(try simp only [cmpI, errD_nil, qa, qb, qc, qd] at ht7)
  refine awp_seq ?_
  refine awp_draw hmix rfl (by kernel_rfl) ?_
  refine dP (fun _ => false) (opp_loadF rfl (ev_glob hG2) ty35) rfl rfl ?_
  refine dP (fun _ => false) (opp_as (v := .sl _ _ _ _) rfl rfl) rfl rfl ?_
  refine dP (fun _ => false) (opp_as (v := .err _) rfl rfl) rfl rfl ?_
  refine And.intro (by kernel_rfl) ?_
  refine awp_ret ?_
  repeat (first | refine athen_ret ?_ | refine ain_ret ?_)
  refine apost_ret (aend (l := [.sl _ _ _ _, .err _]) (.tmp (.tmp .nil)) (fun h => by cases h) (.cons (.noN rfl rfl) (.cons (.noN rfl rfl) .nil)) ⟨Wk.v ?_, rfl, rfl⟩)
  have h4 : s.length < 4 := by omega
  rw [show Sp.opened s = ([], 1) from if_pos h4]; show Wk _ (.tup [.sl 1 true 0 _, .err (.code 1)]); (repeat' (first | exact Wk.refl | exact Wk.sl0 | apply Wk.tup | apply Wk.agg | apply WkL.cons | exact WkL.nil | refine Wk.sl (fun _ _ => ?_)))
 ·(try simp only [cmpI, errD_nil, qa, qb, qc, qd] at ht7)
  refine awp_skip (awp_seq ?_)
  have h4 : ¬ s.length < 4 := by omega
  refine awp_region rfl ?_
  refine sP (opp_mv (v := .sl _ _ _ _) rfl rfl) rfl rfl ?_
  refine sP (opp_mv (v := .sl _ _ _ _) rfl rfl) rfl rfl ?_
  refine sP (opp_lenSl rfl rfl un38) rfl rfl ?_
  refine sP (opp_arith rfl rfl rfl (.inr <| .inl ⟨rfl, w64 (by omega)⟩)) rfl rfl ?_
  refine sP (opp_sliceSl rfl rfl rfl rfl el38 (by omega) (by omega) (by omega)) rfl rfl ?_
  refine sP (opp_as (v := .sl _ _ _ _) rfl rfl) rfl rfl ?_
  refine awp_seq (awp_seq ?_)
  rw [show ((s.length : Int) - 4 - 0).toNat = s.length - 4 by omega]
  refine awp_draw hmix rfl (by kernel_rfl) ?_
  refine dP (fun _ => false) (opp_mv (v := .sl _ _ _ _) rfl rfl) rfl rfl ?_
  refine dR (fun _ => false) (opr_call rfl rfl ent48 rfl (c48 false (s.take (s.length - 4)) (by rw [List.length_take]; omega)) (.cons (aview_wk rfl (wk_slx (by rw [List.length_take]; omega) (fun j hj => by rw [bAt_take _ _ _ (by omega), show Int.toNat 0 + j = j by simp]))) .nil)) rfl rfl rfl ?_ -- d=15 t=45 a=14
  refine dR (fun _ => false) (opr_callO (rl := [(14, 1016)]) (r1 := .osl _ _ _ _ _) (H1 := [(1016, some (.arr _ _ _))]) (n1 := [1016]) rfl rfl ent66 rfl (co66 _) (AViews.refl _ rfl) rfl rfl rfl rfl) rfl rfl rfl ?_
  refine dP (fun _ => false) (opp_mv (v := .sl _ _ _ _) rfl rfl) rfl rfl ?_
  refine dP (fun _ => false) (opp_mv (v := .sl _ _ _ _) rfl rfl) rfl rfl ?_
  refine dP (fun _ => false) (opp_lenSl rfl rfl un38) rfl rfl ?_
  refine dP (fun _ => false) (opp_sliceSl rfl rfl rfl rfl el38 (by omega) (by omega) (by omega)) rfl rfl ?_
  refine dR (fun n => Nat.beq n 1016) (opr_call rfl rfl ent71 rfl (c71 false false (Sp.crcLaid (~~~ (Sp.crcMove (~~~ 0#32) (s.take (s.length - 4))))) (s.drop (s.length - 4))) (.cons (aview_osl0 rfl (Nat.le_refl _)) (.cons (aview_wk rfl (wk_slx (by rw [List.length_drop]; omega) (fun j hj => by rw [bAt_drop]; congr 1))) .nil))) rfl rfl rfl ?_ -- d=21 t=4 a=16,20
  refine dP (fun _ => false) (opp_not rfl rfl) rfl rfl ?_
  refine And.intro (by kernel_rfl) ?_
  refine awp_cond _ rfl (fun ht22 => ?_) (fun ht22 => ?_)
  ·(try simp only [cmpI, errD_nil, qa, qb, qc, qd] at ht22)
   refine awp_seq ?_
   refine awp_draw hmix rfl (by kernel_rfl) ?_
   refine dP (fun _ => false) (opp_loadF rfl (ev_glob hG5) ty35) rfl rfl ?_
   refine dP (fun _ => false) (opp_as (v := .sl _ _ _ _) rfl rfl) rfl rfl ?_
   refine dP (fun _ => false) (opp_as (v := .err _) rfl rfl) rfl rfl ?_
   refine And.intro (by kernel_rfl) ?_
   refine awp_ret ?_
   repeat (first | refine athen_ret ?_ | refine ain_ret ?_)
   refine apost_ret (aend (l := [.sl _ _ _ _, .err _]) (.tmp (.tmp .nil)) (fun h => by cases h) (.cons (.noN rfl rfl) (.cons (.noN rfl rfl) .nil)) ⟨Wk.v ?_, rfl, rfl⟩)
   have hq : Sp.crcLaid (Sp.crcSum (s.take (s.length - 4))) ≠ s.drop (s.length - 4) := ht22
   rw [show Sp.opened s = ([], 6) by rw [Sp.opened, if_neg h4, if_pos hq]]; show Wk _ (.tup [.sl 1 true 0 _, .err (.code 6)]); (repeat' (first | exact Wk.refl | exact Wk.sl0 | apply Wk.tup | apply Wk.agg | apply WkL.cons | exact WkL.nil | refine Wk.sl (fun _ _ => ?_)))
  ·(try simp only [cmpI, errD_nil, qa, qb, qc, qd] at ht22)
   refine awp_skip (awp_seq (awp_region rfl ?_))
   refine sP (opp_mv (v := .sl _ _ _ _) rfl rfl) rfl rfl ?_
   refine sR (opr_callO (rl := [(7, 25)]) (r1 := .osl _ _ _ _ _) (H1 := [(25, some (.arr _ _ _))]) (n1 := [25]) rfl rfl ent65 rfl (co65 (s.length - 4) _ (by omega)) (AViews.refl _ rfl) rfl rfl rfl rfl) rfl rfl rfl ?_
   refine sP (opp_as (v := .osl _ _ _ _ _) rfl rfl) rfl rfl ?_
   refine sP (opp_as (v := .err _) rfl rfl) rfl rfl ?_
   refine awp_ret ?_
   repeat (first | refine athen_ret ?_ | refine ain_ret ?_)
   refine apost_ret (aends (l := [.osl _ _ _ _ _, .err _]) (.tmp (.tmp .nil)) (fun h => by cases h) (.cons shut (fun h => by cases h) (.cons shut (fun h => by cases h) .nil)) rfl ⟨Wk.v ?_, rfl, rfl⟩)
   have hq : ¬ Sp.crcLaid (Sp.crcSum (s.take (s.length - 4))) ≠ s.drop (s.length - 4) := not_not_intro ht22
   rw [show Sp.opened s = (s.take (s.length - 4), 0) by rw [Sp.opened, if_neg h4, if_neg hq]]; exact .tup (.cons (wk_slx (by rw [List.length_take]; omega) (fun j hj => by rw [bAt_take _ _ _ (by omega), show Int.toNat 0 + j = j by simp])) (.cons .refl .nil))
end
end Go.Proofs.YtpmgdmbcdohgcaaDoor
/- Layer 2: a writer (walks over this dump). -/
namespace Go.Proofs.YtpmgdmbcdohgcaaDoor
attribute [local irreducible] Tryd.prog
open Go.Fy
set_option linter.unusedSimpArgs false
set_option linter.unusedVariables false
section
variable {ea : Nat → Addr} {cds : List Nat} {gl : Nat → Option AV}
theorem cg60n (k : Nat) (g : Nat → AV) (h1 : 1 ≤ k) (h2 : k ≤ 1099511627776) : AGen (V ea cds gl) 60 [.ptr 1 [] 0, .osl 3 1 0 k k] [(1, some (.agg [.sl 1 true 0 (fun _ => .top), .err .nil])), (3, some (.arr 1 k g))]
  (.tup []) [(1, some (.agg [.osl 15 1 0 k k, .err .nil])), (3, none), (15, some (.arr 1 k g))] := by
 refine agen_of_body (N := 18) Tryd.func60 rfl rfl (Nat.le_of_ble_eq_true rfl) fun C hV hN hM hO => ?_
 obtain ⟨_, _, w0, G0, σ0, _, own0⟩ := C; dsimp only at hV hN hM hO; subst hV; subst hN; subst hM
 refine awp_seq (awp_region rfl ?_)
 refine sP (opp_mv (v := .ptr _ _ _) rfl rfl) rfl rfl ?_
 refine sP (opp_nilCheckP rfl rfl) rfl rfl ?_
 refine sP (opp_fieldP rfl rfl fld128_1 rfl) rfl rfl ?_
 refine sP (opp_loadP rfl rfl rfl rfl bi rfl ty35) rfl rfl ?_
 refine sP (opp_errNil rfl rfl rfl un35 (.inl ⟨rfl, rfl⟩)) rfl rfl ?_
 refine awp_cond _ rfl (fun hc2 => ?_) (fun hc2 => ?_)
 ·(try simp only [cmpI, errD_nil, qa, qb, qc, qd] at hc2); have ht8 := hc2
  refine awp_region rfl ?_
  refine sP (opp_mv (v := .ptr _ _ _) rfl rfl) rfl rfl ?_
  refine sP (opp_mv (v := .ptr _ _ _) rfl rfl) rfl rfl ?_
  refine sP (opp_nilCheckP rfl rfl) rfl rfl ?_
  refine sP (opp_fieldP rfl rfl fld128_0 rfl) rfl rfl ?_
  refine sP (opp_loadP rfl rfl rfl rfl bi rfl ty38) rfl rfl ?_
  refine sP (opp_mv (v := .osl _ _ _ _ _) rfl rfl) rfl rfl ?_
  refine sR (opr_appendNil (d := 15) rfl rfl (.osl0 rfl (by omega)) eb38 z5 (by omega) (by omega) (by omega)) rfl rfl rfl ?_
  refine sP (opp_nilCheckP rfl rfl) rfl rfl ?_
  refine sP (opp_fieldP rfl rfl fld128_0 rfl) rfl rfl ?_
  refine sR0 (opr_store (v := .osl _ _ _ _ _) (trn := (.agg [.osl _ _ _ _ _, _])) rfl rfl rfl rfl bi rfl rfl rfl rfl fr2 ty38 (fun _ _ h => h)) rfl rfl rfl ?_
  repeat (first | refine athen_ret ?_ | refine ain_ret ?_)
  refine gpost_ret (gends (l := []) false .nil (fun h => by cases h) .nil rfl .refl rfl (And.intro (Exists.intro _ (Exists.intro _ (And.intro rfl (And.intro shut (And.intro (fun h => by cases h) (And.intro ?_ rfl)))))) (And.intro (Exists.intro _ (Exists.intro _ (And.intro rfl (And.intro shut (And.intro (fun h => by cases h) (And.intro ?_ rfl)))))) True.intro)))
  ·exact .refl
  ·exact .refl
 ·(try simp only [cmpI, errD_nil, qa, qb, qc, qd] at hc2); have ht8 := hc2
  exact absurd hc2 (by decide)
theorem cg60r (n k : Nat) (f g : Nat → AV) (h1 : n ≤ 1099511627776) (h2 : k ≤ 1099511627776) : AGen (V ea cds gl) 60 [.ptr 1 [] 0, .osl 3 1 0 k k] [(1, some (.agg [.osl 2 1 0 n n, .err .nil])), (2, some (.arr 1 n f)), (3, some (.arr 1 k g))]
  (.tup []) [(1, some (.agg [.osl 15 1 0 (n + k) (n + k), .err .nil])), (2, none), (3, none), (15, some (.arr 1 (n + k) (fun j => if j < n then f j else g (j - n))))] := by
 refine agen_of_body (N := 18) Tryd.func60 rfl rfl (Nat.le_of_ble_eq_true rfl) fun C hV hN hM hO => ?_
 obtain ⟨_, _, w0, G0, σ0, _, own0⟩ := C; dsimp only at hV hN hM hO; subst hV; subst hN; subst hM
 refine awp_seq (awp_region rfl ?_)
 refine sP (opp_mv (v := .ptr _ _ _) rfl rfl) rfl rfl ?_
 refine sP (opp_nilCheckP rfl rfl) rfl rfl ?_
 refine sP (opp_fieldP rfl rfl fld128_1 rfl) rfl rfl ?_
 refine sP (opp_loadP rfl rfl rfl rfl bi rfl ty35) rfl rfl ?_
 refine sP (opp_errNil rfl rfl rfl un35 (.inl ⟨rfl, rfl⟩)) rfl rfl ?_
 refine awp_cond _ rfl (fun hc2 => ?_) (fun hc2 => ?_)
 ·(try simp only [cmpI, errD_nil, qa, qb, qc, qd] at hc2); have ht8 := hc2
  refine awp_region rfl ?_
  refine sP (opp_mv (v := .ptr _ _ _) rfl rfl) rfl rfl ?_
  refine sP (opp_mv (v := .ptr _ _ _) rfl rfl) rfl rfl ?_
  refine sP (opp_nilCheckP rfl rfl) rfl rfl ?_
  refine sP (opp_fieldP rfl rfl fld128_0 rfl) rfl rfl ?_
  refine sP (opp_loadP rfl rfl rfl rfl bi rfl ty38) rfl rfl ?_
  refine sP (opp_mv (v := .osl _ _ _ _ _) rfl rfl) rfl rfl ?_
  refine sR (opr_append (d := 15) rfl rfl rfl (by omega) (.osl0 rfl (by omega)) eb38 z5 (by omega) (by omega)) rfl rfl rfl ?_
  refine sP (opp_nilCheckP rfl rfl) rfl rfl ?_
  refine sP (opp_fieldP rfl rfl fld128_0 rfl) rfl rfl ?_
  refine sR0 (opr_store (v := .osl _ _ _ _ _) (trn := (.agg [.osl _ _ _ _ _, _])) rfl rfl rfl rfl bi rfl rfl rfl rfl fr2 ty38 (fun _ _ h => h)) rfl rfl rfl ?_
  repeat (first | refine athen_ret ?_ | refine ain_ret ?_)
  refine gpost_ret (gends (l := []) false .nil (fun h => by cases h) .nil rfl .refl rfl (And.intro (Exists.intro _ (Exists.intro _ (And.intro rfl (And.intro shut (And.intro (fun h => by cases h) (And.intro ?_ rfl)))))) (And.intro (Exists.intro _ (Exists.intro _ (And.intro rfl (And.intro shut (And.intro (fun h => by cases h) (And.intro ?_ rfl)))))) True.intro)))
  ·exact .refl
  ·exact .refl
 ·(try simp only [cmpI, errD_nil, qa, qb, qc, qd] at hc2); have ht8 := hc2
  exact absurd hc2 (by decide)
theorem cg60s (n k : Nat) (b : Bool) (f g : Nat → AV) (h1 : n ≤ 1099511627776) (h2 : k ≤ 1099511627776) : AGen (V ea cds gl) 60 [.ptr 1 [] 0, .sl 1 b k g] [(1, some (.agg [.osl 2 1 0 n n, .err .nil])), (2, some (.arr 1 n f))]
  (.tup []) [(1, some (.agg [.osl 15 1 0 (n + k) (n + k), .err .nil])), (2, none), (15, some (.arr 1 (n + k) (fun j => if j < n then f j else g (j - n))))] := by
 refine agen_of_body (N := 18) Tryd.func60 rfl rfl (Nat.le_of_ble_eq_true rfl) fun C hV hN hM hO => ?_
 obtain ⟨_, _, w0, G0, σ0, _, own0⟩ := C; dsimp only at hV hN hM hO; subst hV; subst hN; subst hM
 refine awp_seq (awp_region rfl ?_)
 refine sP (opp_mv (v := .ptr _ _ _) rfl rfl) rfl rfl ?_
 refine sP (opp_nilCheckP rfl rfl) rfl rfl ?_
 refine sP (opp_fieldP rfl rfl fld128_1 rfl) rfl rfl ?_
 refine sP (opp_loadP rfl rfl rfl rfl bi rfl ty35) rfl rfl ?_
 refine sP (opp_errNil rfl rfl rfl un35 (.inl ⟨rfl, rfl⟩)) rfl rfl ?_
 refine awp_cond _ rfl (fun hc2 => ?_) (fun hc2 => ?_)
 ·(try simp only [cmpI, errD_nil, qa, qb, qc, qd] at hc2); have ht8 := hc2
  refine awp_region rfl ?_
  refine sP (opp_mv (v := .ptr _ _ _) rfl rfl) rfl rfl ?_
  refine sP (opp_mv (v := .ptr _ _ _) rfl rfl) rfl rfl ?_
  refine sP (opp_nilCheckP rfl rfl) rfl rfl ?_
  refine sP (opp_fieldP rfl rfl fld128_0 rfl) rfl rfl ?_
  refine sP (opp_loadP rfl rfl rfl rfl bi rfl ty38) rfl rfl ?_
  refine sP (opp_mv (v := .sl _ _ _ _) rfl rfl) rfl rfl ?_
  refine sR (opr_append (d := 15) rfl rfl rfl (by omega) .sl eb38 z5 (by omega) (by omega)) rfl rfl rfl ?_
  refine sP (opp_nilCheckP rfl rfl) rfl rfl ?_
  refine sP (opp_fieldP rfl rfl fld128_0 rfl) rfl rfl ?_
  refine sR0 (opr_store (v := .osl _ _ _ _ _) (trn := (.agg [.osl _ _ _ _ _, _])) rfl rfl rfl rfl bi rfl rfl rfl rfl fr2 ty38 (fun _ _ h => h)) rfl rfl rfl ?_
  repeat (first | refine athen_ret ?_ | refine ain_ret ?_)
  refine gpost_ret (gends (l := []) false .nil (fun h => by cases h) .nil rfl .refl rfl (And.intro (Exists.intro _ (Exists.intro _ (And.intro rfl (And.intro shut (And.intro (fun h => by cases h) (And.intro ?_ rfl)))))) (And.intro (Exists.intro _ (Exists.intro _ (And.intro rfl (And.intro shut (And.intro (fun h => by cases h) (And.intro ?_ rfl)))))) True.intro)))
  ·exact .refl
  ·exact .refl
 ·(try simp only [cmpI, errD_nil, qa, qb, qc, qd] at hc2); have ht8 := hc2
  exact absurd hc2 (by decide)
theorem most_eq (w : Nat) (hw : w = 1 ∨ w = 2 ∨ w = 4) : IntKind.i64.wrap (IntKind.i64.wrap (1 * 2 ^ min (8 * (w : Int)).toNat IntKind.i64.bits) - 1) = ((256 ^ w - 1 : Nat) : Int) := by
  rcases hw with rfl | rfl | rfl <;> decide
theorem c62 (w : Nat) (hw : w = 1 ∨ w = 2 ∨ w = 4) : APure (V ea cds gl) 62 [.int .i64 w] false (.int .i64 ((256 ^ w - 1 : Nat) : Int)) := by
 refine acalls_of_body (N := 7) Tryd.func62 rfl rfl (Nat.le_of_ble_eq_true rfl) fun C hV hN hM hO => ?_
 obtain ⟨_, _, w0, G0, σ0, _, own0⟩ := C; dsimp only at hV hN hM hO; subst hV; subst hN; subst hM
 refine awp_seq (awp_region rfl ?_)
 refine sP (opp_as (v := .int _ _) rfl rfl) rfl rfl ?_
 refine awp_seq (awp_region rfl ?_)
 refine sP (opp_mv (v := .int _ _) rfl rfl) rfl rfl ?_
 refine sP (opp_arith rfl rfl rfl (.inr <| .inr <| .inl ⟨rfl, w64 (by omega)⟩)) rfl rfl ?_
 refine sP (opp_shift rfl rfl rfl (by omega) (.inl ⟨rfl, rfl⟩)) rfl rfl ?_
 refine sP (opp_arith rfl rfl rfl (.inr <| .inl ⟨rfl, rfl⟩)) rfl rfl ?_
 refine sP (opp_as (v := .int _ _) rfl rfl) rfl rfl ?_
 refine awp_ret ?_
 repeat (first | refine athen_ret ?_ | refine ain_ret ?_)
 refine apost_ret (aend1 (r0 := .int _ _) (.tmp .nil) (.noN rfl rfl) ⟨Wk.v ?_, rfl, rfl⟩)
 rw [most_eq w hw]; exact .refl
theorem be_take (n w i : Nat) (h : i < w) : (Sp.be n w).take (i + 1) = (Sp.be n w).take i ++ [UInt8.ofNat (n / 256 ^ (w - 1 - i) % 256)] := by
  rw [List.take_add_one, List.getElem?_eq_getElem (by rw [Sp.be_length]; exact h)]
  have := Sp.be_getD n w i h
  rw [List.getD_eq_getElem?_getD, List.getElem?_eq_getElem (by rw [Sp.be_length]; exact h)] at this
  simp only [Option.getD_some] at this
  rw [this]; rfl
theorem shr_byte (n k : Nat) (hk : k ≤ 3) : IntKind.u8.wrap ((n : Int).fdiv (2 ^ min (Int.toNat (8 * (k : Int))) IntKind.i64.bits)) = ((UInt8.ofNat (n / 256 ^ k % 256)).toNat : Int) := by
  have hw : ∀ m : Nat, IntKind.u8.wrap (m : Int) = ((UInt8.ofNat (m % 256)).toNat : Int) := fun m => by rw [IntKind.wrap_u8]; simp
  have e : ((n : Int).fdiv (2 ^ min (Int.toNat (8 * (k : Int))) IntKind.i64.bits)) = ((n / 256 ^ k : Nat) : Int) := by
    rw [Int.fdiv_eq_ediv_of_nonneg _ (Int.le_of_lt (Int.pow_pos (by decide)))]
    have hk : k = 0 ∨ k = 1 ∨ k = 2 ∨ k = 3 := by omega
    rcases hk with rfl | rfl | rfl | rfl <;> simp [IntKind.bits]
  rw [e, hw]
theorem row_put (l : List UInt8) (x : UInt8) (v : Int) (h : v = (x.toNat : Int)) : WkC (.arr 1 (l.length + 1) fun j => if j < l.length then bAt l j else if j - l.length = 0 then .int .u8 v else .int .u8 0) (.arr 1 (l ++ [x]).length (bAt (l ++ [x]))) := by
  subst h; rw [List.length_append]; exact WkC.arr (fun j hj => b_append l x j _ rfl _ hj)
theorem cg61r (l : List UInt8) (n w : Nat) (hw : w = 1 ∨ w = 2 ∨ w = 4) (hn : n < 256 ^ w) (h0 : l.length ≤ 549755813888) : AGen (V ea cds gl) 61 [.ptr 1 [] 0, .int .i64 (n : Int), .int .i64 (w : Int)]
  [(1, some (.agg [.osl 2 1 0 l.length l.length, .err .nil])), (2, some (.arr 1 l.length (bAt l)))]
  (.tup []) [(1, some (.agg [.osl 1004 1 0 (l ++ Sp.be n w).length (l ++ Sp.be n w).length, .err .nil])), (2, none), (1004, some (.arr 1 (l ++ Sp.be n w).length (bAt (l ++ Sp.be n w))))] := by
 have hp : 1 ≤ 256 ^ w := Nat.one_le_pow _ _ (by decide)
 refine agen_of_body (N := 32) Tryd.func61 rfl rfl (Nat.le_of_ble_eq_true rfl) fun C hV hN hM hO => ?_
 obtain ⟨_, _, w0, G0, σ0, _, own0⟩ := C; dsimp only at hV hN hM hO; subst hV; subst hN; subst hM
 refine awp_seq (awp_seq (awp_region rfl ?_))
 refine sP (opp_mv (v := .int _ _) rfl rfl) rfl rfl ?_
 refine sP (opp_cmp rfl rfl rfl rfl) rfl rfl ?_
 refine sP (opp_mv (v := .bool _) rfl rfl) rfl rfl ?_
 refine sG _ rfl rfl rfl rfl (fun hg => (And.intro gi (True.intro))) (fun hg => opp_mv (v := .int _ _) rfl rfl) ?_
 refine sG _ rfl rfl rfl rfl (fun hg => (And.intro gi (True.intro))) (fun hg => opp_mv (v := .int _ _) rfl rfl) ?_
 refine sGR _ rfl rfl rfl rfl (fun hg => (And.intro gi (And.intro gi (True.intro)))) (fun hg => (opr_call rfl rfl ent62 rfl (c62 w hw) (AViews.refl _ rfl))) ?_
 refine sG _ rfl rfl rfl rfl (fun hg => (And.intro gi (And.intro gi (True.intro)))) (fun hg => opp_cmp rfl rfl rfl rfl) ?_
 refine sPick rfl rfl rfl rfl (by exact True.intro) rfl rfl (fun hg => gi) (fun hg => gi) ?_
 refine awp_cond _ rfl (fun ht14 => ?_) (fun ht14 => ?_)
 ·(try simp only [cmpI, errD_nil, qa, qb, qc, qd] at ht14)
  exfalso; simp [cmpI] at ht14; omega
 ·(try simp only [cmpI, errD_nil, qa, qb, qc, qd] at ht14)
  refine awp_skip (awp_seq (awp_region rfl ?_))
  refine sP (opp_mv (v := .int _ _) rfl rfl) rfl rfl ?_
  refine sP (opp_arith rfl rfl rfl (.inr <| .inl ⟨rfl, w64 (by omega)⟩)) rfl rfl ?_
  refine sP (opp_as (v := .int _ _) rfl rfl) rfl rfl ?_
  refine awp_block ?_
  refine awp_loopK (ι := Nat) (fun i => i ≤ w) (fun i => [(6, .int .i64 ((w : Int) - 1 - i)), (20, .top), (21, .top), (22, .top), (23, .top), (24, .top), (25, .top), (26, .top), (27, .top), (28, .top), (29, .top), (30, .top), (31, .top)]) (fun i => [(1, some (.agg [.osl 1004 1 0 (l ++ (Sp.be n w).take i).length (l ++ (Sp.be n w).take i).length, .err .nil])), (2, none), (1004, some (.arr 1 (l ++ (Sp.be n w).take i).length (bAt (l ++ (Sp.be n w).take i))))]) [1004, 1, 2] (fun i => w - i) (0) (Nat.zero_le _) (by
   refine imp_over [(1004, 2)] rfl rfl (by kernel_rfl) ?_ ?_
   ·refine And.intro (by exact Or.inr (And.intro rfl (WkV.of (by show AV.int .i64 _ = AV.int .i64 _; simp)))) ?_
    iterate 12 refine And.intro wkv ?_
    exact True.intro
   ·refine And.intro (And.intro rfl (And.intro rfl (Exists.intro _ (And.intro rfl (by exact WkC.of (by show AV.agg [AV.osl 2 1 0 _ _, AV.err .nil] = AV.agg [AV.osl 2 1 0 _ _, AV.err .nil]; simp)))))) ?_
    refine And.intro (And.intro rfl (And.intro rfl (Exists.intro _ (And.intro rfl (by exact WkC.of (by show AV.arr 1 _ _ = AV.arr 1 _ _; simp)))))) ?_
    exact True.intro
   ) ?_
  intro i hi1
  refine awp_seq (awp_seq (awp_region rfl ?_))
  refine sP (opp_mv (v := .int _ _) rfl rfl) rfl rfl ?_
  refine sP (opp_cmp rfl rfl rfl rfl) rfl rfl ?_
  refine awp_cond _ rfl (fun ht21 => ?_) (fun ht21 => ?_)
  ·(try simp only [cmpI, errD_nil, qa, qb, qc, qd] at ht21)
   refine awp_skip (awp_seq (awp_block (awp_region rfl ?_)))
   refine sP (opp_mv (v := .ptr _ _ _) rfl rfl) rfl rfl ?_
   refine sP (opp_mv (v := .int _ _) rfl rfl) rfl rfl ?_
   refine sP (opp_mv (v := .int _ _) rfl rfl) rfl rfl ?_
   refine sP (opp_arith rfl rfl rfl (.inr <| .inr <| .inl ⟨rfl, w64 (by omega)⟩)) rfl rfl ?_
   refine sP (opp_shift rfl rfl rfl (by omega) (.inr ⟨rfl, rfl⟩)) rfl rfl ?_
   refine sP (opp_convInt rfl rfl un3s un5 rfl) rfl rfl ?_
   refine sR (opr_buildSlice (n := 30) (g := fun j => if j = 0 then .int _ _ else .int .u8 0) rfl eb38 z5 (by decide) rfl rfl) rfl rfl rfl ?_
   refine sR (opr_callG (rl := [(1, 1), (2, 1004), (3, 30), (15, 31)]) (r1 := .tup []) (H1 := [(1, some (.agg [.osl 31 _ _ _ _, .err _])), (1004, none), (30, none), (31, some (.arr _ _ _))]) (n1 := [31]) rfl rfl ent60 (cg60r (l ++ (Sp.be n w).take i).length 1 (bAt (l ++ (Sp.be n w).take i)) _ (by rw [List.length_append, List.length_take]; omega) (by omega)) (And.intro (And.intro rfl wka) (And.intro (And.intro rfl wka) True.intro)) (And.intro (And.intro rfl (Exists.intro _ (And.intro rfl wkc))) (And.intro (And.intro rfl (Exists.intro _ (And.intro rfl wkc))) (And.intro (And.intro rfl (Exists.intro _ (And.intro rfl wkc))) True.intro))) rfl rfl rfl rfl) rfl rfl rfl ?_
   refine awp_region rfl ?_
   refine sP (opp_mv (v := .int _ _) rfl rfl) rfl rfl ?_
   refine sP (opp_arith rfl rfl rfl (.inr <| .inl ⟨rfl, w64 (by omega)⟩)) rfl rfl ?_
   refine sP (opp_as (v := .int _ _) rfl rfl) rfl rfl ?_
   refine Exists.intro (i + 1) (And.intro (And.intro (by omega) (by first | omega | (dsimp only; omega))) (by
    refine imp_over [(1004, 31)] rfl rfl (by kernel_rfl) ?_ ?_
    ·refine And.intro (by exact Or.inr (And.intro rfl (WkV.of (by show AV.int .i64 _ = AV.int .i64 _; simp; omega)))) ?_
     iterate 12 refine And.intro wkv ?_
     exact True.intro
    ·refine And.intro (And.intro rfl (And.intro rfl (Exists.intro _ (And.intro rfl (by exact WkC.of (by show AV.agg [AV.osl 31 1 0 _ _, AV.err .nil] = AV.agg [AV.osl 31 1 0 _ _, AV.err .nil]; rw [be_take n w i (by omega)]; simp; omega)))))) ?_
     refine And.intro (And.intro rfl (And.intro rfl (Exists.intro _ (And.intro rfl (by show WkC (AV.arr 1 _ _) (AV.arr 1 _ _); have e := shr_byte n (w - 1 - i) (by omega); rw [show ((w - 1 - i : Nat) : Int) = (w : Int) - 1 - i by omega] at e; rw [be_take n w i (by omega), ← List.append_assoc]; exact row_put _ _ _ e))))) ?_
     exact True.intro
    ))
  ·(try simp only [cmpI, errD_nil, qa, qb, qc, qd] at ht21)
   refine awp_exit ?_
   repeat (first | refine athen_ret ?_ | refine ain_ret ?_)
   refine gpost_ret (gends (l := []) false .nil (fun h => by cases h) .nil rfl .refl rfl (And.intro (Exists.intro _ (Exists.intro _ (And.intro rfl (And.intro shut (And.intro (fun h => by cases h) (And.intro ?_ rfl)))))) (And.intro (Exists.intro _ (Exists.intro _ (And.intro rfl (And.intro shut (And.intro (fun h => by cases h) (And.intro ?_ rfl)))))) True.intro)))
   ·have ht : (Sp.be n w).take i = Sp.be n w := List.take_of_length_le (by rw [Sp.be_length]; omega)
    rw [ht]; exact .refl
   ·have ht : (Sp.be n w).take i = Sp.be n w := List.take_of_length_le (by rw [Sp.be_length]; omega)
    rw [ht]; exact .refl
end
end Go.Proofs.YtpmgdmbcdohgcaaDoor
/- Layer 2: a writer's methods (walks over this dump). -/
namespace Go.Proofs.YtpmgdmbcdohgcaaDoor
attribute [local irreducible] Tryd.prog
open Go.Fy
set_option linter.unusedSimpArgs false
set_option linter.unusedVariables false
section
variable {ea : Nat → Addr} {cds : List Nat} {gl : Nat → Option AV}
theorem bAt_append (l d : List UInt8) (j : Nat) : (if j < l.length then bAt l j else bAt d (j - l.length)) = bAt (l ++ d) j := by
  simp only [bAt, List.getD_eq_getElem?_getD, List.getElem?_append]
  by_cases h : j < l.length
  · rw [if_pos h, if_pos h]
  · rw [if_neg h, if_neg h]
theorem cg32r (l : List UInt8) (n : Nat) (hn : n < 65536) (h0 : l.length ≤ 549755813888) : AGen (V ea cds gl) 32 [.ptr 1 [] 0, .int .i64 (n : Int)] [(1, some (.agg [.osl 2 1 0 l.length l.length, .err .nil])), (2, some (.arr 1 l.length (bAt l)))]
  (.tup []) [(1, some (.agg [.osl 1004 1 0 (l ++ Sp.be n 2).length (l ++ Sp.be n 2).length, .err .nil])), (2, none), (1004, some (.arr 1 (l ++ Sp.be n 2).length (bAt (l ++ Sp.be n 2))))] := by
 refine agen_of_body (N := 7) Tryd.func32 rfl rfl (Nat.le_of_ble_eq_true rfl) fun C hV hN hM hO => ?_
 obtain ⟨_, _, w0, G0, σ0, _, own0⟩ := C; dsimp only at hV hN hM hO; subst hV; subst hN; subst hM
 refine awp_region rfl ?_
 refine sP (opp_mv (v := .ptr _ _ _) rfl rfl) rfl rfl ?_
 refine sP (opp_mv (v := .int _ _) rfl rfl) rfl rfl ?_
 refine sR (opr_callG (rl := [(1, 1), (2, 2), (1004, 1004)]) (r1 := .tup []) (H1 := [(1, some (.agg [.osl 1004 _ _ _ _, .err _])), (2, none), (1004, some (.arr _ _ _))]) (n1 := [1004]) rfl rfl ent61 (cg61r l n 2 (by simp) (by omega) h0) (And.intro (And.intro rfl wka) (And.intro (And.intro rfl wka) (And.intro (And.intro rfl wka) True.intro))) (And.intro (And.intro rfl (Exists.intro _ (And.intro rfl wkc))) (And.intro (And.intro rfl (Exists.intro _ (And.intro rfl wkc))) True.intro)) rfl rfl rfl rfl) rfl rfl rfl ?_
 repeat (first | refine athen_ret ?_ | refine ain_ret ?_)
 refine gpost_ret (gends (l := []) false .nil (fun h => by cases h) .nil rfl .refl rfl (And.intro (Exists.intro _ (Exists.intro _ (And.intro rfl (And.intro shut (And.intro (fun h => by cases h) (And.intro ?_ rfl)))))) (And.intro (Exists.intro _ (Exists.intro _ (And.intro rfl (And.intro shut (And.intro (fun h => by cases h) (And.intro ?_ rfl)))))) True.intro)))
 ·exact .refl
 ·exact .refl
theorem cg33r (l : List UInt8) (n : Nat) (hn : n < 4294967296) (h0 : l.length ≤ 549755813888) : AGen (V ea cds gl) 33 [.ptr 1 [] 0, .int .i64 (n : Int)] [(1, some (.agg [.osl 2 1 0 l.length l.length, .err .nil])), (2, some (.arr 1 l.length (bAt l)))]
  (.tup []) [(1, some (.agg [.osl 1004 1 0 (l ++ Sp.be n 4).length (l ++ Sp.be n 4).length, .err .nil])), (2, none), (1004, some (.arr 1 (l ++ Sp.be n 4).length (bAt (l ++ Sp.be n 4))))] := by
 refine agen_of_body (N := 7) Tryd.func33 rfl rfl (Nat.le_of_ble_eq_true rfl) fun C hV hN hM hO => ?_
 obtain ⟨_, _, w0, G0, σ0, _, own0⟩ := C; dsimp only at hV hN hM hO; subst hV; subst hN; subst hM
 refine awp_region rfl ?_
 refine sP (opp_mv (v := .ptr _ _ _) rfl rfl) rfl rfl ?_
 refine sP (opp_mv (v := .int _ _) rfl rfl) rfl rfl ?_
 refine sR (opr_callG (rl := [(1, 1), (2, 2), (1004, 1004)]) (r1 := .tup []) (H1 := [(1, some (.agg [.osl 1004 _ _ _ _, .err _])), (2, none), (1004, some (.arr _ _ _))]) (n1 := [1004]) rfl rfl ent61 (cg61r l n 4 (by simp) (by omega) h0) (And.intro (And.intro rfl wka) (And.intro (And.intro rfl wka) (And.intro (And.intro rfl wka) True.intro))) (And.intro (And.intro rfl (Exists.intro _ (And.intro rfl wkc))) (And.intro (And.intro rfl (Exists.intro _ (And.intro rfl wkc))) True.intro)) rfl rfl rfl rfl) rfl rfl rfl ?_
 repeat (first | refine athen_ret ?_ | refine ain_ret ?_)
 refine gpost_ret (gends (l := []) false .nil (fun h => by cases h) .nil rfl .refl rfl (And.intro (Exists.intro _ (Exists.intro _ (And.intro rfl (And.intro shut (And.intro (fun h => by cases h) (And.intro ?_ rfl)))))) (And.intro (Exists.intro _ (Exists.intro _ (And.intro rfl (And.intro shut (And.intro (fun h => by cases h) (And.intro ?_ rfl)))))) True.intro)))
 ·exact .refl
 ·exact .refl
theorem ct64 (l : List UInt8) (h1 : l.length ≤ 140737488355328) : APure (V ea cds gl) 64 [.sl 1 false l.length (bAt l)] true (.sl 1 false l.length (bAt l)) := by
 refine acalls_of_body (N := 8) Tryd.func64 rfl rfl (Nat.le_of_ble_eq_true rfl) fun C hV hN hM hO => ?_
 obtain ⟨_, _, w0, G0, σ0, _, own0⟩ := C; dsimp only at hV hN hM hO; subst hV; subst hN; subst hM
 refine awp_seq (awp_region rfl ?_)
 refine sP (opp_as (v := .sl _ _ _ _) rfl rfl) rfl rfl ?_
 refine awp_seq (awp_seq (awp_region rfl ?_))
 refine sP (opp_mv (v := .sl _ _ _ _) rfl rfl) rfl rfl ?_
 refine sP (opp_slNil rfl rfl rfl un38 (.inl ⟨rfl, rfl⟩)) rfl rfl ?_
 refine awp_cond _ rfl (fun hc3 => ?_) (fun hc3 => ?_)
 ·(try simp only [cmpI, errD_nil, qa, qb, qc, qd] at hc3); have ht4 := hc3
  refine awp_seq (awp_region rfl ?_)
  refine sP (opp_as (v := .sl _ _ _ _) rfl rfl) rfl rfl ?_
  refine awp_ret ?_
  repeat (first | refine athen_ret ?_ | refine ain_ret ?_)
  refine apost_ret (aend1s (r0 := .sl _ _ _ _) (.tmp .nil) shut rfl ⟨Wk.v ?_, rfl, rfl⟩)
  simp at hc3
 ·(try simp only [cmpI, errD_nil, qa, qb, qc, qd] at hc3); have ht4 := hc3
  refine awp_skip (awp_seq (awp_region rfl ?_))
  refine sR (opr_buildSlice (n := 5) (g := fun _ => .int .u8 0) rfl eb38 z5 (by decide) rfl rfl) rfl rfl rfl ?_
  refine sP (opp_mv (v := .sl _ _ _ _) rfl rfl) rfl rfl ?_
  refine sR (opr_append (d := 7) rfl rfl rfl (by omega) .sl eb38 z5 (by omega) (by omega)) rfl rfl rfl ?_
  refine sP (opp_as (v := .osl _ _ _ _ _) rfl rfl) rfl rfl ?_
  refine awp_ret ?_
  repeat (first | refine athen_ret ?_ | refine ain_ret ?_)
  refine apost_ret (aend1s (r0 := .osl _ _ _ _ _) (.tmp .nil) shut rfl ⟨Wk.v ?_, rfl, rfl⟩)
  simp only [Nat.zero_add]; exact .sl (fun j hj => by simp)
theorem cg35r (l : List UInt8) (h0 : l.length ≤ 549755813888) : AGen (V ea cds gl) 35 [.ptr 1 [] 0] [(1, some (.agg [.osl 2 1 0 l.length l.length, .err .nil])), (2, some (.arr 1 l.length (bAt l)))]
  (.tup [.sl 1 false l.length (bAt l), .err .nil]) [(1, some (.agg [.osl 2 1 0 l.length l.length, .err .nil])), (2, some (.arr 1 l.length (bAt l)))] := by
 refine agen_of_body (N := 18) Tryd.func35 rfl rfl (Nat.le_of_ble_eq_true rfl) fun C hV hN hM hO => ?_
 obtain ⟨_, _, w0, G0, σ0, _, own0⟩ := C; dsimp only at hV hN hM hO; subst hV; subst hN; subst hM
 refine awp_seq (awp_region rfl ?_)
 refine sP (opp_as (v := .sl _ _ _ _) rfl rfl) rfl rfl ?_
 refine sP (opp_as (v := .err _) rfl rfl) rfl rfl ?_
 refine awp_seq (awp_seq (awp_region rfl ?_))
 refine sP (opp_mv (v := .ptr _ _ _) rfl rfl) rfl rfl ?_
 refine sP (opp_nilCheckP rfl rfl) rfl rfl ?_
 refine sP (opp_fieldP rfl rfl fld128_1 rfl) rfl rfl ?_
 refine sP (opp_loadP rfl rfl rfl rfl bi rfl ty35) rfl rfl ?_
 refine sP (opp_errNil rfl rfl rfl un35 (.inr ⟨rfl, rfl⟩)) rfl rfl ?_
 refine awp_cond _ rfl (fun hc3 => ?_) (fun hc3 => ?_)
 ·(try simp only [cmpI, errD_nil, qa, qb, qc, qd] at hc3); have ht8 := hc3
  exact absurd hc3 (by decide)
 ·(try simp only [cmpI, errD_nil, qa, qb, qc, qd] at hc3); have ht8 := hc3
  refine awp_skip (awp_seq (awp_region rfl ?_))
  refine sP (opp_mv (v := .ptr _ _ _) rfl rfl) rfl rfl ?_
  refine sP (opp_nilCheckP rfl rfl) rfl rfl ?_
  refine sP (opp_fieldP rfl rfl fld128_0 rfl) rfl rfl ?_
  refine sP (opp_loadP rfl rfl rfl rfl bi rfl ty38) rfl rfl ?_
  refine sR (opr_call rfl rfl ent64 rfl (ct64 l (by omega)) (.cons (aview_osl0 rfl (Nat.le_refl _)) .nil)) rfl rfl rfl ?_ -- d=17 t=38 a=16
  refine sP (opp_as (v := .sl _ _ _ _) rfl rfl) rfl rfl ?_
  refine sP (opp_as (v := .err _) rfl rfl) rfl rfl ?_
  refine awp_ret ?_
  repeat (first | refine athen_ret ?_ | refine ain_ret ?_)
  refine gpost_ret (gends (l := [.sl _ _ _ _, .err _]) true (.tmp (.tmp .nil)) (fun h => by cases h) (.cons shut (fun h => by cases h) (.cons shut (fun h => by cases h) .nil)) rfl ?_ rfl (And.intro (Exists.intro _ (Exists.intro _ (And.intro rfl (And.intro shut (And.intro (fun h => by cases h) (And.intro ?_ rfl)))))) (And.intro (Exists.intro _ (Exists.intro _ (And.intro rfl (And.intro shut (And.intro (fun h => by cases h) (And.intro ?_ rfl)))))) True.intro)))
  ·exact .refl
  ·exact .refl
  ·exact .refl
theorem co30 : AOwn (V ea cds gl) 30 [] false (.ptr 2 [] 0) [(2, some (.agg [.sl 1 true 0 (fun _ => .top), .err .nil]))] := by
 refine aown_of_body (N := 3) Tryd.func30 rfl rfl (Nat.le_of_ble_eq_true rfl) fun C hV hN hM hO => ?_
 obtain ⟨_, _, w0, G0, σ0, _, own0⟩ := C; dsimp only at hV hN hM hO; subst hV; subst hN; subst hM
 refine awp_seq (awp_region rfl ?_)
 first | refine sP (opp_as (v := .ptr _ _ _) rfl rfl) rfl rfl ?_ | refine sP (opp_as (v := .val _) rfl rfl) rfl rfl ?_
 refine awp_seq (awp_region rfl ?_)
 refine sP (opp_build rfl z128 bld128 rfl [.sl 1 true 0 (fun _ => .top), .err .nil] rfl) rfl rfl ?_
 refine sR (opr_box (y := .agg _) (n := 2) rfl rfl rfl) rfl rfl rfl ?_
 first | refine sP (opp_as (v := .ptr _ _ _) rfl rfl) rfl rfl ?_ | refine sP (opp_as (v := .val _) rfl rfl) rfl rfl ?_
 refine awp_ret ?_
 repeat (first | refine athen_ret ?_ | refine ain_ret ?_)
 refine opost_ret (oend1 (r0 := .ptr 2 [] 0) (.tmp .nil) (Shut.refl sfr) rfl ?_ (And.intro (Exists.intro _ (Exists.intro _ (And.intro rfl (And.intro shut (And.intro (fun h => by cases h) (And.intro ?_ rfl)))))) True.intro))
 ·exact .refl
 ·exact .refl
end
end Go.Proofs.YtpmgdmbcdohgcaaDoor
/- Layer 2: a cursor (walks over this dump). -/
namespace Go.Proofs.YtpmgdmbcdohgcaaDoor
attribute [local irreducible] Tryd.prog
open Go.Fy
set_option linter.unusedSimpArgs false
set_option linter.unusedVariables false
section
variable {ea : Nat → Addr} {cds : List Nat} {gl : Nat → Option AV}
theorem cg55c (l : List UInt8) (nn : Bool) (a b : Nat) (hab : a ≤ b) (hb : b ≤ 140737488355328) : AGen (V ea cds gl) 55 [.ptr 1 [] 0] [(1, some (.agg [.sl 1 nn l.length (bAt l), .int .i64 (a : Int), .int .i64 (b : Int)]))]
  (.int .i64 ((b - a : Nat) : Int)) [(1, some (.agg [.sl 1 nn l.length (bAt l), .int .i64 (a : Int), .int .i64 (b : Int)]))] := by
 refine agen_of_body (N := 12) Tryd.func55 rfl rfl (Nat.le_of_ble_eq_true rfl) fun C hV hN hM hO => ?_
 obtain ⟨_, _, w0, G0, σ0, _, own0⟩ := C; dsimp only at hV hN hM hO; subst hV; subst hN; subst hM
 refine awp_seq (awp_region rfl ?_)
 refine sP (opp_as (v := .int _ _) rfl rfl) rfl rfl ?_
 refine awp_seq ?_
 refine awp_draw hmix rfl (by kernel_rfl) ?_
 refine dP (fun _ => false) (opp_mv (v := .ptr _ _ _) rfl rfl) rfl rfl ?_
 refine dP (fun _ => false) (opp_nilCheckP rfl rfl) rfl rfl ?_
 refine dP (fun _ => false) (opp_fieldP rfl rfl fld139_2 rfl) rfl rfl ?_
 refine dP (fun n => Nat.beq n 1) (opp_loadP rfl rfl rfl rfl bi rfl ty3) rfl rfl ?_
 refine dP (fun _ => false) (opp_mv (v := .ptr _ _ _) rfl rfl) rfl rfl ?_
 refine dP (fun _ => false) (opp_nilCheckP rfl rfl) rfl rfl ?_
 refine dP (fun _ => false) (opp_fieldP rfl rfl fld139_1 rfl) rfl rfl ?_
 refine dP (fun n => Nat.beq n 1) (opp_loadP rfl rfl rfl rfl bi rfl ty3) rfl rfl ?_
 refine dP (fun _ => false) (opp_arith rfl rfl rfl (.inr <| .inl ⟨rfl, w64 (by omega)⟩)) rfl rfl ?_
 refine dP (fun _ => false) (opp_as (v := .int _ _) rfl rfl) rfl rfl ?_
 refine And.intro (by kernel_rfl) ?_
 refine awp_ret ?_
 repeat (first | refine athen_ret ?_ | refine ain_ret ?_)
 refine gpost_ret (gend1 (r0 := .int _ _) true (.tmp .nil) shut rfl ?_ rfl (And.intro (Exists.intro _ (Exists.intro _ (And.intro rfl (And.intro shut (And.intro (fun h => by cases h) (And.intro ?_ rfl)))))) True.intro))
 ·rw [show ((b - a : Nat) : Int) = (b : Int) - a by omega]; exact .refl
 ·exact .refl
theorem or_byte (n : Nat) (c : UInt8) (h : n < 16777216) : IntKind.i64.wrap ((BitVec.ofInt IntKind.i64.bits (IntKind.i64.wrap ((n : Int) * 2 ^ min (Int.toNat 8) IntKind.i64.bits)) ||| BitVec.ofInt IntKind.i64.bits (IntKind.i64.wrap (c.toNat : Int))).toNat : Int) = ((n * 256 + c.toNat : Nat) : Int) := by
  have hc := c.toNat_lt
  have e1 : IntKind.i64.wrap ((n : Int) * 2 ^ min (Int.toNat 8) IntKind.i64.bits) = ((n * 256 : Nat) : Int) := by
    have : (2 : Int) ^ min (Int.toNat 8) IntKind.i64.bits = 256 := by decide
    rw [this, w64 (by omega)]; omega
  have e2 : IntKind.i64.wrap (c.toNat : Int) = (c.toNat : Int) := w64 (by omega)
  have e3 : ∀ k : Nat, k < 18446744073709551616 → (BitVec.ofInt IntKind.i64.bits (k : Int)).toNat = k := fun k hk => by
    show (BitVec.ofInt 64 (k : Int)).toNat = k
    simp; omega
  rw [e1, e2, BitVec.toNat_or, e3 _ (by omega), e3 _ (by omega)]
  have e4 := Nat.two_pow_add_eq_or_of_lt (i := 8) (b := c.toNat) hc n
  rw [show n * 256 = 2 ^ 8 * n by omega, ← e4, w64 (by omega)]
theorem fld_succ (l : List UInt8) (k i : Nat) (h : k + i < l.length) : Sp.fld l k (i + 1) = Sp.fld l k i * 256 + (l.getD (k + i) 0).toNat := by
  unfold Sp.fld
  rw [List.take_add_one, List.getElem?_drop, List.getElem?_eq_getElem h, Option.toList_some, Sp.num_snoc]
  simp [List.getD_eq_getElem?_getD, h]
theorem fld_lt (l : List UInt8) (k i : Nat) : Sp.fld l k i < 256 ^ i := by
  have h := Sp.num_lt ((l.drop k).take i)
  exact Nat.lt_of_lt_of_le h (Nat.pow_le_pow_right (by decide) (by rw [List.length_take]; omega))
theorem cg86c (l : List UInt8) (nn : Bool) (a b off w : Nat) (hl : a + off + w ≤ l.length) (hw : w ≤ 4) (h0 : l.length ≤ 140737488355328) : AGen (V ea cds gl) 86 [.ptr 1 [] 0, .int .i64 (off : Int), .int .i64 (w : Int)] [(1, some (.agg [.sl 1 nn l.length (bAt l), .int .i64 (a : Int), .int .i64 (b : Int)]))]
  (.int .i64 (Sp.fld l (a + off) w : Nat)) [(1, some (.agg [.sl 1 nn l.length (bAt l), .int .i64 (a : Int), .int .i64 (b : Int)]))] := by
 refine agen_of_body (N := 41) Tryd.func86 rfl rfl (Nat.le_of_ble_eq_true rfl) fun C hV hN hM hO => ?_
 obtain ⟨_, _, w0, G0, σ0, _, own0⟩ := C; dsimp only at hV hN hM hO; subst hV; subst hN; subst hM
 refine awp_seq (awp_region rfl ?_)
 refine sP (opp_as (v := .int _ _) rfl rfl) rfl rfl ?_
 refine awp_seq (awp_region rfl ?_)
 refine sP (opp_as (v := .int _ _) rfl rfl) rfl rfl ?_
 refine awp_seq (awp_seq ?_)
 refine awp_draw hmix rfl (by kernel_rfl) ?_
 refine dP (fun _ => false) (opp_mv (v := .ptr _ _ _) rfl rfl) rfl rfl ?_
 refine dP (fun _ => false) (opp_nilCheckP rfl rfl) rfl rfl ?_
 refine dP (fun _ => false) (opp_fieldP rfl rfl fld139_0 rfl) rfl rfl ?_
 refine dP (fun n => Nat.beq n 1) (opp_loadP rfl rfl rfl rfl bi rfl ty38) rfl rfl ?_
 refine dP (fun _ => false) (opp_mv (v := .ptr _ _ _) rfl rfl) rfl rfl ?_
 refine dP (fun _ => false) (opp_nilCheckP rfl rfl) rfl rfl ?_
 refine dP (fun _ => false) (opp_fieldP rfl rfl fld139_1 rfl) rfl rfl ?_
 refine dP (fun n => Nat.beq n 1) (opp_loadP rfl rfl rfl rfl bi rfl ty3) rfl rfl ?_
 refine dP (fun _ => false) (opp_mv (v := .int _ _) rfl rfl) rfl rfl ?_
 refine dP (fun _ => false) (opp_arith rfl rfl rfl (.inl ⟨rfl, w64 (by omega)⟩)) rfl rfl ?_
 refine dP (fun _ => false) (opp_mv (v := .ptr _ _ _) rfl rfl) rfl rfl ?_
 refine dP (fun _ => false) (opp_nilCheckP rfl rfl) rfl rfl ?_
 refine dP (fun _ => false) (opp_fieldP rfl rfl fld139_1 rfl) rfl rfl ?_
 refine dP (fun n => Nat.beq n 1) (opp_loadP rfl rfl rfl rfl bi rfl ty3) rfl rfl ?_
 refine dP (fun _ => false) (opp_mv (v := .int _ _) rfl rfl) rfl rfl ?_
 refine dP (fun _ => false) (opp_arith rfl rfl rfl (.inl ⟨rfl, w64 (by omega)⟩)) rfl rfl ?_
 refine dP (fun _ => false) (opp_mv (v := .int _ _) rfl rfl) rfl rfl ?_
 refine dP (fun _ => false) (opp_arith rfl rfl rfl (.inl ⟨rfl, w64 (by omega)⟩)) rfl rfl ?_
 refine dP (fun _ => false) (opp_sliceSl rfl rfl rfl rfl el38 (by omega) (by omega) (by omega)) rfl rfl ?_
 refine dP (fun n => !([] : List Nat).contains n) (opp_lenSl rfl rfl un38) rfl rfl ?_
 refine dP (fun _ => false) (opp_mv (v := .int _ _) rfl rfl) rfl rfl ?_
 refine And.intro (by kernel_rfl) ?_
 refine awp_block ?_
 refine awp_loopK (ι := Nat) (fun i => i ≤ w) (fun i => [(7, .int .i64 (Sp.fld l (a + off) i : Nat)), (9, .top), (30, .int .i64 (i : Int)), (31, .top), (32, .top), (33, .top), (34, .top), (35, .top), (36, .top), (37, .top), (38, .top), (39, .top)]) (fun i => []) [1] (fun i => w - i) (0) (Nat.zero_le _) (by
  refine imp_over [] rfl rfl (by kernel_rfl) ?_ ?_
  ·iterate 12 refine And.intro wkv ?_
   exact True.intro
  ·exact True.intro
  ) ?_
 intro i hi1
 refine awp_seq (awp_region rfl ?_)
 refine sP (opp_cmp rfl rfl rfl rfl) rfl rfl ?_
 refine awp_seq ?_
 refine awp_cond _ rfl (fun ht31 => ?_) (fun ht31 => ?_)
 ·(try simp only [cmpI, errD_nil, qa, qb, qc, qd] at ht31)
  refine awp_skip (awp_seq (awp_block (awp_seq (awp_region rfl ?_))))
  refine sP (opp_indexSl rfl rfl rfl el38 (by omega) (by omega)) rfl rfl ?_
  refine sP (opp_loadF rfl rfl ty5) rfl rfl ?_
  refine sP (opp_as (v := .int _ _) rfl rfl) rfl rfl ?_
  refine awp_region rfl ?_
  refine sP (opp_mv (v := .int _ _) rfl rfl) rfl rfl ?_
  refine sP (opp_shift rfl rfl rfl (by omega) (.inl ⟨rfl, rfl⟩)) rfl rfl ?_
  refine sP (opp_mv (v := .int _ _) rfl rfl) rfl rfl ?_
  refine sP (opp_convInt rfl rfl un5s un3 rfl) rfl rfl ?_
  refine sP (opp_arith rfl rfl rfl (.inr <| .inr <| .inr <| .inr <| .inr <| .inr <| .inl ⟨rfl, rfl⟩)) rfl rfl ?_
  refine sP (opp_as (v := .int _ _) rfl rfl) rfl rfl ?_
  refine awp_region rfl ?_
  refine sP (opp_arith rfl rfl rfl (.inl ⟨rfl, w64 (by omega)⟩)) rfl rfl ?_
  refine sP (opp_mv (v := .int _ _) rfl rfl) rfl rfl ?_
  refine Exists.intro (i + 1) (And.intro (And.intro (by omega) (by first | omega | (dsimp only; omega))) (by
   refine imp_over [] rfl rfl (by kernel_rfl) ?_ ?_
   ·refine And.intro (by exact Or.inr (And.intro rfl (WkV.of (by show AV.int .i64 _ = AV.int .i64 _; have hf := fld_lt l (a + off) i; have h3 : 256 ^ i ≤ 256 ^ 3 := Nat.pow_le_pow_right (by decide) (by omega); have e := or_byte (Sp.fld l (a + off) i) (l.getD (a + off + i) 0) (by omega); rw [← fld_succ l (a + off) i (by omega)] at e; rw [show ((a : Int) + off).toNat + (i : Int).toNat = a + off + i by omega, e])))) ?_
    iterate 11 refine And.intro wkv ?_
    exact True.intro
   ·exact True.intro
   ))
 ·(try simp only [cmpI, errD_nil, qa, qb, qc, qd] at ht31)
  refine awp_exit (awp_seq (awp_region rfl ?_))
  refine sP (opp_mv (v := .int _ _) rfl rfl) rfl rfl ?_
  refine sP (opp_as (v := .int _ _) rfl rfl) rfl rfl ?_
  refine awp_ret ?_
  repeat (first | refine athen_ret ?_ | refine ain_ret ?_)
  refine gpost_ret (gend1 (r0 := .int _ _) true (.tmp .nil) shut rfl ?_ rfl (And.intro (Exists.intro _ (Exists.intro _ (And.intro rfl (And.intro shut (And.intro (fun h => by cases h) (And.intro ?_ rfl)))))) True.intro))
  ·rw [show i = w by omega]; exact .refl
  ·exact .refl
theorem cg72c (l : List UInt8) (nn : Bool) (a b w : Nat) (hw : w = 1 ∨ w = 2 ∨ w = 4) (hb : a + w ≤ b) (hl : b ≤ l.length) (h0 : l.length ≤ 140737488355328) : AGen (V ea cds gl) 72 [.ptr 1 [] 0, .int .i64 (w : Int), .int .i64 0, .int .i64 ((256 ^ w - 1 : Nat) : Int)] [(1, some (.agg [.sl 1 nn l.length (bAt l), .int .i64 (a : Int), .int .i64 (b : Int)]))]
  (.tup [.int .i64 (Sp.fld l a w : Nat), .err .nil]) [(1, some (.agg [.sl 1 nn l.length (bAt l), .int .i64 ((a + w : Nat) : Int), .int .i64 (b : Int)]))] := by
 have hf := fld_lt l a w
 refine agen_of_body (N := 58) Tryd.func72 rfl rfl (Nat.le_of_ble_eq_true rfl) fun C hV hN hM hO => ?_
 obtain ⟨_, _, w0, G0, σ0, _, own0⟩ := C; dsimp only at hV hN hM hO; subst hV; subst hN; subst hM
 refine awp_seq (awp_region rfl ?_)
 refine sP (opp_as (v := .int _ _) rfl rfl) rfl rfl ?_
 refine sP (opp_as (v := .err _) rfl rfl) rfl rfl ?_
 refine awp_seq (awp_seq (awp_region rfl ?_))
 refine sP (opp_mv (v := .int _ _) rfl rfl) rfl rfl ?_
 refine sP (opp_cmp rfl rfl rfl rfl) rfl rfl ?_
 refine sP (opp_mv (v := .bool _) rfl rfl) rfl rfl ?_
 refine sG _ rfl rfl rfl rfl (fun hg => (And.intro gi (True.intro))) (fun hg => opp_mv (v := .int _ _) rfl rfl) ?_
 refine sG _ rfl rfl rfl rfl (fun hg => (And.intro gi (And.intro gi (True.intro)))) (fun hg => opp_cmp rfl rfl rfl rfl) ?_
 refine sPick rfl rfl rfl rfl (by exact True.intro) rfl rfl (fun hg => gi) (fun hg => gi) ?_
 refine sP (opp_mv (v := .bool _) rfl rfl) rfl rfl ?_
 refine sG _ rfl rfl rfl rfl (fun hg => (And.intro gi (True.intro))) (fun hg => opp_mv (v := .int _ _) rfl rfl) ?_
 refine sG _ rfl rfl rfl rfl (fun hg => (And.intro gi (And.intro gi (True.intro)))) (fun hg => opp_cmp rfl rfl rfl rfl) ?_
 refine sPick rfl rfl rfl rfl (by exact True.intro) rfl rfl (fun hg => gi) (fun hg => gi) ?_
 refine awp_cond _ rfl (fun ht20 => ?_) (fun ht20 => ?_)
 ·(try simp only [cmpI, errD_nil, qa, qb, qc, qd] at ht20)
  exfalso; revert ht20; rcases hw with rfl | rfl | rfl <;> simp [cmpI]
 ·(try simp only [cmpI, errD_nil, qa, qb, qc, qd] at ht20)
  refine awp_skip (awp_seq (awp_seq (awp_region rfl ?_)))
  refine sP (opp_mv (v := .ptr _ _ _) rfl rfl) rfl rfl ?_
  refine sR (opr_callG (rl := [(1, 1)]) (r1 := .int _ _) (H1 := [(1, some (.agg [.sl _ _ _ _, .int _ _, .int _ _]))]) (n1 := []) rfl rfl ent55 (cg55c l nn a b (by omega) (by omega)) (And.intro (And.intro rfl wka) True.intro) (And.intro (And.intro rfl (Exists.intro _ (And.intro rfl wkc))) True.intro) rfl rfl rfl rfl) rfl rfl rfl ?_
  refine sP (opp_mv (v := .int _ _) rfl rfl) rfl rfl ?_
  refine sP (opp_cmp rfl rfl rfl rfl) rfl rfl ?_
  refine awp_cond _ rfl (fun ht25 => ?_) (fun ht25 => ?_)
  ·(try simp only [cmpI, errD_nil, qa, qb, qc, qd] at ht25)
   exfalso; simp [cmpI] at ht25; omega
  ·(try simp only [cmpI, errD_nil, qa, qb, qc, qd] at ht25)
   refine awp_skip (awp_seq (awp_region rfl ?_))
   refine sP (opp_mv (v := .ptr _ _ _) rfl rfl) rfl rfl ?_
   refine sP (opp_mv (v := .int _ _) rfl rfl) rfl rfl ?_
   refine sR (opr_callG (rl := [(1, 1)]) (r1 := .int _ _) (H1 := [(1, some (.agg [.sl _ _ _ _, .int _ _, .int _ _]))]) (n1 := []) rfl rfl ent86 (cg86c l nn a b 0 w (by omega) (by omega) h0) (And.intro (And.intro rfl wka) (And.intro (And.intro rfl wka) (And.intro (And.intro rfl wka) True.intro))) (And.intro (And.intro rfl (Exists.intro _ (And.intro rfl wkc))) True.intro) rfl rfl rfl rfl) rfl rfl rfl ?_
   refine sP (opp_as (v := .int _ _) rfl rfl) rfl rfl ?_
   refine awp_seq (awp_seq (awp_region rfl ?_))
   refine sP (opp_mv (v := .int _ _) rfl rfl) rfl rfl ?_
   refine sP (opp_mv (v := .int _ _) rfl rfl) rfl rfl ?_
   refine sP (opp_cmp rfl rfl rfl rfl) rfl rfl ?_
   refine sP (opp_mv (v := .bool _) rfl rfl) rfl rfl ?_
   refine sG _ rfl rfl rfl rfl (fun hg => (And.intro gi (True.intro))) (fun hg => opp_mv (v := .int _ _) rfl rfl) ?_
   refine sG _ rfl rfl rfl rfl (fun hg => (And.intro gi (True.intro))) (fun hg => opp_mv (v := .int _ _) rfl rfl) ?_
   refine sG _ rfl rfl rfl rfl (fun hg => (And.intro gi (And.intro gi (True.intro)))) (fun hg => opp_cmp rfl rfl rfl rfl) ?_
   refine sPick rfl rfl rfl rfl (by exact True.intro) rfl rfl (fun hg => gi) (fun hg => gi) ?_
   refine awp_cond _ rfl (fun ht42 => ?_) (fun ht42 => ?_)
   ·(try simp only [cmpI, errD_nil, qa, qb, qc, qd] at ht42)
    exfalso; simp [cmpI] at ht42; omega
   ·(try simp only [cmpI, errD_nil, qa, qb, qc, qd] at ht42)
    refine awp_skip (awp_seq (awp_region rfl ?_))
    refine sP (opp_mv (v := .ptr _ _ _) rfl rfl) rfl rfl ?_
    refine sP (opp_nilCheckP rfl rfl) rfl rfl ?_
    refine sP (opp_fieldP rfl rfl fld139_1 rfl) rfl rfl ?_
    refine sP (opp_loadP rfl rfl rfl rfl bi rfl ty3) rfl rfl ?_
    refine sP (opp_mv (v := .int _ _) rfl rfl) rfl rfl ?_
    refine sP (opp_arith rfl rfl rfl (.inl ⟨rfl, w64 (by omega)⟩)) rfl rfl ?_
    refine sP (opp_nilCheckP rfl rfl) rfl rfl ?_
    refine sP (opp_fieldP rfl rfl fld139_1 rfl) rfl rfl ?_
    refine sR0 (opr_store (v := .int _ _) (trn := (.agg [_, .int _ _, _])) rfl rfl rfl rfl bi rfl rfl rfl rfl fr2 ty3 (fun _ _ h => h)) rfl rfl rfl ?_
    refine awp_seq (awp_region rfl ?_)
    refine sP (opp_mv (v := .int _ _) rfl rfl) rfl rfl ?_
    refine sP (opp_as (v := .int _ _) rfl rfl) rfl rfl ?_
    refine sP (opp_as (v := .err _) rfl rfl) rfl rfl ?_
    refine awp_ret ?_
    repeat (first | refine athen_ret ?_ | refine ain_ret ?_)
    refine gpost_ret (gends (l := [.int _ _, .err _]) true (.tmp (.tmp .nil)) (fun h => by cases h) (.cons shut (fun h => by cases h) (.cons shut (fun h => by cases h) .nil)) rfl ?_ rfl (And.intro (Exists.intro _ (Exists.intro _ (And.intro rfl (And.intro shut (And.intro (fun h => by cases h) (And.intro ?_ rfl)))))) True.intro))
    ·exact .refl
    ·rw [show ((a + w : Nat) : Int) = (a : Int) + w by omega]; exact .refl
theorem cg56c (l : List UInt8) (nn : Bool) (a b : Nat) (hb : a + 1 ≤ b) (hl : b ≤ l.length) (h0 : l.length ≤ 140737488355328) : AGen (V ea cds gl) 56 [.ptr 1 [] 0] [(1, some (.agg [.sl 1 nn l.length (bAt l), .int .i64 (a : Int), .int .i64 (b : Int)]))]
  (.tup [.int .i64 (Sp.fld l a 1 : Nat), .err .nil]) [(1, some (.agg [.sl 1 nn l.length (bAt l), .int .i64 ((a + 1 : Nat) : Int), .int .i64 (b : Int)]))] := by
 refine agen_of_body (N := 9) Tryd.func56 rfl rfl (Nat.le_of_ble_eq_true rfl) fun C hV hN hM hO => ?_
 obtain ⟨_, _, w0, G0, σ0, _, own0⟩ := C; dsimp only at hV hN hM hO; subst hV; subst hN; subst hM
 refine awp_seq (awp_region rfl ?_)
 refine sP (opp_as (v := .int _ _) rfl rfl) rfl rfl ?_
 refine sP (opp_as (v := .err _) rfl rfl) rfl rfl ?_
 refine awp_seq (awp_region rfl ?_)
 refine sP (opp_mv (v := .ptr _ _ _) rfl rfl) rfl rfl ?_
 refine sR (opr_call rfl rfl ent62 rfl (c62 1 (by simp)) (AViews.refl _ rfl)) rfl rfl rfl ?_ -- d=5 t=3 a=x
 refine sR (opr_callG (rl := [(1, 1)]) (r1 := .tup [.int _ _, .err _]) (H1 := [(1, some (.agg [.sl _ _ _ _, .int _ _, .int _ _]))]) (n1 := []) rfl rfl ent72 (cg72c l nn a b 1 (by simp) hb hl h0) (And.intro (And.intro rfl wka) (And.intro (And.intro rfl wka) (And.intro (And.intro rfl wka) (And.intro (And.intro rfl wka) True.intro)))) (And.intro (And.intro rfl (Exists.intro _ (And.intro rfl wkc))) True.intro) rfl rfl rfl rfl) rfl rfl rfl ?_
 refine sP (opp_extract rfl rfl rfl) rfl rfl ?_
 refine sP (opp_extract rfl rfl rfl) rfl rfl ?_
 refine sP (opp_as (v := .int _ _) rfl rfl) rfl rfl ?_
 refine sP (opp_as (v := .err _) rfl rfl) rfl rfl ?_
 refine awp_ret ?_
 repeat (first | refine athen_ret ?_ | refine ain_ret ?_)
 refine gpost_ret (gends (l := [.int _ _, .err _]) true (.tmp (.tmp .nil)) (fun h => by cases h) (.cons shut (fun h => by cases h) (.cons shut (fun h => by cases h) .nil)) rfl ?_ rfl (And.intro (Exists.intro _ (Exists.intro _ (And.intro rfl (And.intro shut (And.intro (fun h => by cases h) (And.intro ?_ rfl)))))) True.intro))
 ·exact .refl
 ·exact .refl
theorem cg46c (l : List UInt8) (nn : Bool) (a b : Nat) (hb : a + 2 ≤ b) (hl : b ≤ l.length) (h0 : l.length ≤ 140737488355328) : AGen (V ea cds gl) 46 [.ptr 1 [] 0] [(1, some (.agg [.sl 1 nn l.length (bAt l), .int .i64 (a : Int), .int .i64 (b : Int)]))]
  (.tup [.int .i64 (Sp.fld l a 2 : Nat), .err .nil]) [(1, some (.agg [.sl 1 nn l.length (bAt l), .int .i64 ((a + 2 : Nat) : Int), .int .i64 (b : Int)]))] := by
 refine agen_of_body (N := 9) Tryd.func46 rfl rfl (Nat.le_of_ble_eq_true rfl) fun C hV hN hM hO => ?_
 obtain ⟨_, _, w0, G0, σ0, _, own0⟩ := C; dsimp only at hV hN hM hO; subst hV; subst hN; subst hM
 refine awp_seq (awp_region rfl ?_)
 refine sP (opp_as (v := .int _ _) rfl rfl) rfl rfl ?_
 refine sP (opp_as (v := .err _) rfl rfl) rfl rfl ?_
 refine awp_seq (awp_region rfl ?_)
 refine sP (opp_mv (v := .ptr _ _ _) rfl rfl) rfl rfl ?_
 refine sR (opr_call rfl rfl ent62 rfl (c62 2 (by simp)) (AViews.refl _ rfl)) rfl rfl rfl ?_ -- d=5 t=3 a=x
 refine sR (opr_callG (rl := [(1, 1)]) (r1 := .tup [.int _ _, .err _]) (H1 := [(1, some (.agg [.sl _ _ _ _, .int _ _, .int _ _]))]) (n1 := []) rfl rfl ent72 (cg72c l nn a b 2 (by simp) hb hl h0) (And.intro (And.intro rfl wka) (And.intro (And.intro rfl wka) (And.intro (And.intro rfl wka) (And.intro (And.intro rfl wka) True.intro)))) (And.intro (And.intro rfl (Exists.intro _ (And.intro rfl wkc))) True.intro) rfl rfl rfl rfl) rfl rfl rfl ?_
 refine sP (opp_extract rfl rfl rfl) rfl rfl ?_
 refine sP (opp_extract rfl rfl rfl) rfl rfl ?_
 refine sP (opp_as (v := .int _ _) rfl rfl) rfl rfl ?_
 refine sP (opp_as (v := .err _) rfl rfl) rfl rfl ?_
 refine awp_ret ?_
 repeat (first | refine athen_ret ?_ | refine ain_ret ?_)
 refine gpost_ret (gends (l := [.int _ _, .err _]) true (.tmp (.tmp .nil)) (fun h => by cases h) (.cons shut (fun h => by cases h) (.cons shut (fun h => by cases h) .nil)) rfl ?_ rfl (And.intro (Exists.intro _ (Exists.intro _ (And.intro rfl (And.intro shut (And.intro (fun h => by cases h) (And.intro ?_ rfl)))))) True.intro))
 ·exact .refl
 ·exact .refl
theorem cg47c (l : List UInt8) (nn : Bool) (a b : Nat) (hb : a + 4 ≤ b) (hl : b ≤ l.length) (h0 : l.length ≤ 140737488355328) : AGen (V ea cds gl) 47 [.ptr 1 [] 0] [(1, some (.agg [.sl 1 nn l.length (bAt l), .int .i64 (a : Int), .int .i64 (b : Int)]))]
  (.tup [.int .i64 (Sp.fld l a 4 : Nat), .err .nil]) [(1, some (.agg [.sl 1 nn l.length (bAt l), .int .i64 ((a + 4 : Nat) : Int), .int .i64 (b : Int)]))] := by
 refine agen_of_body (N := 9) Tryd.func47 rfl rfl (Nat.le_of_ble_eq_true rfl) fun C hV hN hM hO => ?_
 obtain ⟨_, _, w0, G0, σ0, _, own0⟩ := C; dsimp only at hV hN hM hO; subst hV; subst hN; subst hM
 refine awp_seq (awp_region rfl ?_)
 refine sP (opp_as (v := .int _ _) rfl rfl) rfl rfl ?_
 refine sP (opp_as (v := .err _) rfl rfl) rfl rfl ?_
 refine awp_seq (awp_region rfl ?_)
 refine sP (opp_mv (v := .ptr _ _ _) rfl rfl) rfl rfl ?_
 refine sR (opr_call rfl rfl ent62 rfl (c62 4 (by simp)) (AViews.refl _ rfl)) rfl rfl rfl ?_ -- d=5 t=3 a=x
 refine sR (opr_callG (rl := [(1, 1)]) (r1 := .tup [.int _ _, .err _]) (H1 := [(1, some (.agg [.sl _ _ _ _, .int _ _, .int _ _]))]) (n1 := []) rfl rfl ent72 (cg72c l nn a b 4 (by simp) hb hl h0) (And.intro (And.intro rfl wka) (And.intro (And.intro rfl wka) (And.intro (And.intro rfl wka) (And.intro (And.intro rfl wka) True.intro)))) (And.intro (And.intro rfl (Exists.intro _ (And.intro rfl wkc))) True.intro) rfl rfl rfl rfl) rfl rfl rfl ?_
 refine sP (opp_extract rfl rfl rfl) rfl rfl ?_
 refine sP (opp_extract rfl rfl rfl) rfl rfl ?_
 refine sP (opp_as (v := .int _ _) rfl rfl) rfl rfl ?_
 refine sP (opp_as (v := .err _) rfl rfl) rfl rfl ?_
 refine awp_ret ?_
 repeat (first | refine athen_ret ?_ | refine ain_ret ?_)
 refine gpost_ret (gends (l := [.int _ _, .err _]) true (.tmp (.tmp .nil)) (fun h => by cases h) (.cons shut (fun h => by cases h) (.cons shut (fun h => by cases h) .nil)) rfl ?_ rfl (And.intro (Exists.intro _ (Exists.intro _ (And.intro rfl (And.intro shut (And.intro (fun h => by cases h) (And.intro ?_ rfl)))))) True.intro))
 ·exact .refl
 ·exact .refl
theorem cg76c (l : List UInt8) (a b n : Nat) (hb : a + n ≤ b) (hl : b ≤ l.length) (h0 : l.length ≤ 140737488355328) : AGen (V ea cds gl) 76 [.ptr 1 [] 0, .int .i64 (n : Int)] [(1, some (.agg [.sl 1 false l.length (bAt l), .int .i64 (a : Int), .int .i64 (b : Int)]))]
  (.tup [.sl 1 false ((l.drop a).take n).length (bAt ((l.drop a).take n)), .err .nil]) [(1, some (.agg [.sl 1 false l.length (bAt l), .int .i64 ((a + n : Nat) : Int), .int .i64 (b : Int)]))] := by
 refine agen_of_body (N := 45) Tryd.func76 rfl rfl (Nat.le_of_ble_eq_true rfl) fun C hV hN hM hO => ?_
 obtain ⟨_, _, w0, G0, σ0, _, own0⟩ := C; dsimp only at hV hN hM hO; subst hV; subst hN; subst hM
 refine awp_seq (awp_region rfl ?_)
 refine sP (opp_as (v := .sl _ _ _ _) rfl rfl) rfl rfl ?_
 refine sP (opp_as (v := .err _) rfl rfl) rfl rfl ?_
 refine awp_seq (awp_seq (awp_region rfl ?_))
 refine sP (opp_mv (v := .int _ _) rfl rfl) rfl rfl ?_
 refine sP (opp_cmp rfl rfl rfl rfl) rfl rfl ?_
 refine awp_cond _ rfl (fun ht8 => ?_) (fun ht8 => ?_)
 ·(try simp only [cmpI, errD_nil, qa, qb, qc, qd] at ht8)
  exfalso; omega
 ·(try simp only [cmpI, errD_nil, qa, qb, qc, qd] at ht8)
  refine awp_skip (awp_seq (awp_seq (awp_region rfl ?_)))
  refine sP (opp_mv (v := .ptr _ _ _) rfl rfl) rfl rfl ?_
  refine sR (opr_callG (rl := [(1, 1)]) (r1 := .int _ _) (H1 := [(1, some (.agg [.sl _ _ _ _, .int _ _, .int _ _]))]) (n1 := []) rfl rfl ent55 (cg55c l false a b (by omega) (by omega)) (And.intro (And.intro rfl wka) True.intro) (And.intro (And.intro rfl (Exists.intro _ (And.intro rfl wkc))) True.intro) rfl rfl rfl rfl) rfl rfl rfl ?_
  refine sP (opp_mv (v := .int _ _) rfl rfl) rfl rfl ?_
  refine sP (opp_cmp rfl rfl rfl rfl) rfl rfl ?_
  refine awp_cond _ rfl (fun ht13 => ?_) (fun ht13 => ?_)
  ·(try simp only [cmpI, errD_nil, qa, qb, qc, qd] at ht13)
   exfalso; simp [cmpI] at ht13; omega
  ·(try simp only [cmpI, errD_nil, qa, qb, qc, qd] at ht13)
   refine awp_skip (awp_seq ?_)
   refine awp_draw hmix rfl (by kernel_rfl) ?_
   refine dP (fun _ => false) (opp_mv (v := .ptr _ _ _) rfl rfl) rfl rfl ?_
   refine dP (fun _ => false) (opp_nilCheckP rfl rfl) rfl rfl ?_
   refine dP (fun _ => false) (opp_fieldP rfl rfl fld139_0 rfl) rfl rfl ?_
   refine dP (fun n => Nat.beq n 1) (opp_loadP rfl rfl rfl rfl bi rfl ty38) rfl rfl ?_
   refine dP (fun _ => false) (opp_mv (v := .ptr _ _ _) rfl rfl) rfl rfl ?_
   refine dP (fun _ => false) (opp_nilCheckP rfl rfl) rfl rfl ?_
   refine dP (fun _ => false) (opp_fieldP rfl rfl fld139_1 rfl) rfl rfl ?_
   refine dP (fun n => Nat.beq n 1) (opp_loadP rfl rfl rfl rfl bi rfl ty3) rfl rfl ?_
   refine dP (fun _ => false) (opp_mv (v := .ptr _ _ _) rfl rfl) rfl rfl ?_
   refine dP (fun _ => false) (opp_nilCheckP rfl rfl) rfl rfl ?_
   refine dP (fun _ => false) (opp_fieldP rfl rfl fld139_1 rfl) rfl rfl ?_
   refine dP (fun n => Nat.beq n 1) (opp_loadP rfl rfl rfl rfl bi rfl ty3) rfl rfl ?_
   refine dP (fun _ => false) (opp_mv (v := .int _ _) rfl rfl) rfl rfl ?_
   refine dP (fun _ => false) (opp_arith rfl rfl rfl (.inl ⟨rfl, w64 (by omega)⟩)) rfl rfl ?_
   refine dP (fun _ => false) (opp_sliceSl rfl rfl rfl rfl el38 (by omega) (by omega) (by omega)) rfl rfl ?_
   refine dR (fun _ => false) (opr_call rfl rfl ent64 rfl (c64 false ((l.drop a).take n).length (bAt ((l.drop a).take n)) (fun h => by cases h) (by rw [List.length_take]; omega)) (.cons (aview_wk rfl (wk_slx (by rw [List.length_take, List.length_drop]; omega) (fun j hj => by rw [bAt_take _ _ _ (by omega), bAt_drop]; congr 1))) .nil)) rfl rfl rfl ?_ -- d=35 t=38 a=34
   refine dP (fun _ => false) (opp_as (v := .sl _ _ _ _) rfl rfl) rfl rfl ?_
   refine And.intro (by kernel_rfl) ?_
   refine awp_seq (awp_region rfl ?_)
   refine sP (opp_mv (v := .ptr _ _ _) rfl rfl) rfl rfl ?_
   refine sP (opp_nilCheckP rfl rfl) rfl rfl ?_
   refine sP (opp_fieldP rfl rfl fld139_1 rfl) rfl rfl ?_
   refine sP (opp_loadP rfl rfl rfl rfl bi rfl ty3) rfl rfl ?_
   refine sP (opp_mv (v := .int _ _) rfl rfl) rfl rfl ?_
   refine sP (opp_arith rfl rfl rfl (.inl ⟨rfl, w64 (by omega)⟩)) rfl rfl ?_
   refine sP (opp_nilCheckP rfl rfl) rfl rfl ?_
   refine sP (opp_fieldP rfl rfl fld139_1 rfl) rfl rfl ?_
   refine sR0 (opr_store (v := .int _ _) (trn := (.agg [_, .int _ _, _])) rfl rfl rfl rfl bi rfl rfl rfl rfl fr2 ty3 (fun _ _ h => h)) rfl rfl rfl ?_
   refine awp_seq (awp_region rfl ?_)
   refine sP (opp_mv (v := .sl _ _ _ _) rfl rfl) rfl rfl ?_
   refine sP (opp_as (v := .sl _ _ _ _) rfl rfl) rfl rfl ?_
   refine sP (opp_as (v := .err _) rfl rfl) rfl rfl ?_
   refine awp_ret ?_
   repeat (first | refine athen_ret ?_ | refine ain_ret ?_)
   refine gpost_ret (gends (l := [.sl _ _ _ _, .err _]) true (.tmp (.tmp .nil)) (fun h => by cases h) (.cons shut (fun h => by cases h) (.cons shut (fun h => by cases h) .nil)) rfl ?_ rfl (And.intro (Exists.intro _ (Exists.intro _ (And.intro rfl (And.intro shut (And.intro (fun h => by cases h) (And.intro ?_ rfl)))))) True.intro))
   ·exact .refl
   ·rw [show ((a + n : Nat) : Int) = (a : Int) + n by omega]; exact .refl
theorem co45 (l : List UInt8) (h0 : l.length ≤ 140737488355328) : AOwn (V ea cds gl) 45 [.sl 1 false l.length (bAt l)] false (.ptr 8 [] 0) [(8, some (.agg [.sl 1 false l.length (bAt l), .int .i64 0, .int .i64 (l.length : Int)]))] := by
 refine aown_of_body (N := 9) Tryd.func45 rfl rfl (Nat.le_of_ble_eq_true rfl) fun C hV hN hM hO => ?_
 obtain ⟨_, _, w0, G0, σ0, _, own0⟩ := C; dsimp only at hV hN hM hO; subst hV; subst hN; subst hM
 refine awp_seq (awp_region rfl ?_)
 first | refine sP (opp_as (v := .ptr _ _ _) rfl rfl) rfl rfl ?_ | refine sP (opp_as (v := .val _) rfl rfl) rfl rfl ?_
 refine awp_seq (awp_region rfl ?_)
 refine sP (opp_mv (v := .sl _ _ _ _) rfl rfl) rfl rfl ?_
 refine sR (opr_call rfl rfl ent64 rfl (c64 false l.length (bAt l) (fun h => by cases h) (by omega)) (AViews.refl _ rfl)) rfl rfl rfl ?_ -- d=4 t=38 a=3
 refine sP (opp_mv (v := .sl _ _ _ _) rfl rfl) rfl rfl ?_
 refine sP (opp_lenSl rfl rfl un38) rfl rfl ?_
 refine sP (opp_build rfl z139 bld139 rfl [.sl _ _ _ _, .int .i64 0, .int _ _] rfl) rfl rfl ?_
 refine sR (opr_box (y := .agg _) (n := 8) rfl rfl rfl) rfl rfl rfl ?_
 first | refine sP (opp_as (v := .ptr _ _ _) rfl rfl) rfl rfl ?_ | refine sP (opp_as (v := .val _) rfl rfl) rfl rfl ?_
 refine awp_ret ?_
 repeat (first | refine athen_ret ?_ | refine ain_ret ?_)
 refine opost_ret (oend1 (r0 := .ptr 8 [] 0) (.tmp .nil) (Shut.refl sfr) rfl ?_ (And.intro (Exists.intro _ (Exists.intro _ (And.intro rfl (And.intro shut (And.intro (fun h => by cases h) (And.intro ?_ rfl)))))) True.intro))
 ·exact .refl
 ·exact .refl
end
end Go.Proofs.YtpmgdmbcdohgcaaDoor
/- The numbers of errors: api.Code; ferrylaw22.plain (walks over this dump). -/
namespace Go.Proofs.YtpmgdmbcdohgcaaDoor
attribute [local irreducible] Tryd.prog
open Go.Fy
set_option linter.unusedSimpArgs false
set_option linter.unusedVariables false
section
variable {ea : Nat → Addr} {cds : List Nat} {gl : Nat → Option AV}
theorem c28 (c : Nat) (h1 : 11 ≤ c) (h20 : c ≤ 20) (hS : Sents cds gl) : APure (V ea cds gl) 28 [.err (.code c)] false (.int .i64 c) := by
 have hS0 := hS
 obtain ⟨hG2, hG3, hG4, hG1, hG0, hG5, hG6, hG7, hG8, hG9, hG10, hG11, hG12, hG13, hG14, hG15, hG16, hG17, hG18, hG19, hT, hall⟩ := hS
 refine acalls_of_body (N := 43) Tryd.func28 rfl rfl (Nat.le_of_ble_eq_true rfl) fun C hV hN hM hO => ?_
 obtain ⟨_, _, w0, G0, σ0, _, own0⟩ := C; dsimp only at hV hN hM hO; subst hV; subst hN; subst hM
 refine awp_seq (awp_region rfl ?_)
 refine sP (opp_as (v := .int _ _) rfl rfl) rfl rfl ?_
 refine awp_seq (awp_block (awp_seq (awp_region rfl ?_)))
 refine sP (opp_mv (v := .err _) rfl rfl) rfl rfl ?_
 refine sP (opp_loadF rfl (ev_glob hG10) ty35) rfl rfl ?_
 refine sR (opr_call rfl rfl ent27 rfl (c27 c 11 (hall _ (by omega) h20) (hall _ (by omega) (by omega))) (AViews.refl _ rfl)) rfl rfl rfl ?_ -- d=6 t=4 a=4,5
 refine sP (opp_as (v := .bool _) rfl rfl) rfl rfl ?_
 refine awp_cond _ rfl (fun ht3 => ?_) (fun ht3 => ?_)
 ·(try simp only [cmpI, errD_nil, qa, qb, qc, qd] at ht3)
  refine awp_seq (awp_region rfl ?_)
  refine sP (opp_as (v := .int _ _) rfl rfl) rfl rfl ?_
  refine awp_ret ?_
  repeat (first | refine athen_ret ?_ | refine ain_ret ?_)
  refine apost_ret (aend1 (r0 := .int _ _) (.tmp .nil) (.noN rfl rfl) ⟨Wk.v ?_, rfl, rfl⟩)
  have hk : c = 11 := by omega
  subst hk; exact .refl
 ·(try simp only [cmpI, errD_nil, qa, qb, qc, qd] at ht3)
  refine awp_seq (awp_region rfl ?_)
  refine sP (opp_mv (v := .err _) rfl rfl) rfl rfl ?_
  refine sP (opp_loadF rfl (ev_glob hG11) ty35) rfl rfl ?_
  refine sR (opr_call rfl rfl ent27 rfl (c27 c 12 (hall _ (by omega) h20) (hall _ (by omega) (by omega))) (AViews.refl _ rfl)) rfl rfl rfl ?_ -- d=10 t=4 a=8,9
  refine sP (opp_as (v := .bool _) rfl rfl) rfl rfl ?_
  refine awp_cond _ rfl (fun ht7 => ?_) (fun ht7 => ?_)
  ·(try simp only [cmpI, errD_nil, qa, qb, qc, qd] at ht7)
   refine awp_seq (awp_region rfl ?_)
   refine sP (opp_as (v := .int _ _) rfl rfl) rfl rfl ?_
   refine awp_ret ?_
   repeat (first | refine athen_ret ?_ | refine ain_ret ?_)
   refine apost_ret (aend1 (r0 := .int _ _) (.tmp .nil) (.noN rfl rfl) ⟨Wk.v ?_, rfl, rfl⟩)
   have hk : c = 12 := by omega
   subst hk; exact .refl
  ·(try simp only [cmpI, errD_nil, qa, qb, qc, qd] at ht7)
   refine awp_seq (awp_region rfl ?_)
   refine sP (opp_mv (v := .err _) rfl rfl) rfl rfl ?_
   refine sP (opp_loadF rfl (ev_glob hG12) ty35) rfl rfl ?_
   refine sR (opr_call rfl rfl ent27 rfl (c27 c 13 (hall _ (by omega) h20) (hall _ (by omega) (by omega))) (AViews.refl _ rfl)) rfl rfl rfl ?_ -- d=14 t=4 a=12,13
   refine sP (opp_as (v := .bool _) rfl rfl) rfl rfl ?_
   refine awp_cond _ rfl (fun ht11 => ?_) (fun ht11 => ?_)
   ·(try simp only [cmpI, errD_nil, qa, qb, qc, qd] at ht11)
    refine awp_seq (awp_region rfl ?_)
    refine sP (opp_as (v := .int _ _) rfl rfl) rfl rfl ?_
    refine awp_ret ?_
    repeat (first | refine athen_ret ?_ | refine ain_ret ?_)
    refine apost_ret (aend1 (r0 := .int _ _) (.tmp .nil) (.noN rfl rfl) ⟨Wk.v ?_, rfl, rfl⟩)
    have hk : c = 13 := by omega
    subst hk; exact .refl
   ·(try simp only [cmpI, errD_nil, qa, qb, qc, qd] at ht11)
    refine awp_seq (awp_region rfl ?_)
    refine sP (opp_mv (v := .err _) rfl rfl) rfl rfl ?_
    refine sP (opp_loadF rfl (ev_glob hG13) ty35) rfl rfl ?_
    refine sR (opr_call rfl rfl ent27 rfl (c27 c 14 (hall _ (by omega) h20) (hall _ (by omega) (by omega))) (AViews.refl _ rfl)) rfl rfl rfl ?_ -- d=18 t=4 a=16,17
    refine sP (opp_as (v := .bool _) rfl rfl) rfl rfl ?_
    refine awp_cond _ rfl (fun ht15 => ?_) (fun ht15 => ?_)
    ·(try simp only [cmpI, errD_nil, qa, qb, qc, qd] at ht15)
     refine awp_seq (awp_region rfl ?_)
     refine sP (opp_as (v := .int _ _) rfl rfl) rfl rfl ?_
     refine awp_ret ?_
     repeat (first | refine athen_ret ?_ | refine ain_ret ?_)
     refine apost_ret (aend1 (r0 := .int _ _) (.tmp .nil) (.noN rfl rfl) ⟨Wk.v ?_, rfl, rfl⟩)
     have hk : c = 14 := by omega
     subst hk; exact .refl
    ·(try simp only [cmpI, errD_nil, qa, qb, qc, qd] at ht15)
     refine awp_seq (awp_region rfl ?_)
     refine sP (opp_mv (v := .err _) rfl rfl) rfl rfl ?_
     refine sP (opp_loadF rfl (ev_glob hG14) ty35) rfl rfl ?_
     refine sR (opr_call rfl rfl ent27 rfl (c27 c 15 (hall _ (by omega) h20) (hall _ (by omega) (by omega))) (AViews.refl _ rfl)) rfl rfl rfl ?_ -- d=22 t=4 a=20,21
     refine sP (opp_as (v := .bool _) rfl rfl) rfl rfl ?_
     refine awp_cond _ rfl (fun ht19 => ?_) (fun ht19 => ?_)
     ·(try simp only [cmpI, errD_nil, qa, qb, qc, qd] at ht19)
      refine awp_seq (awp_region rfl ?_)
      refine sP (opp_as (v := .int _ _) rfl rfl) rfl rfl ?_
      refine awp_ret ?_
      repeat (first | refine athen_ret ?_ | refine ain_ret ?_)
      refine apost_ret (aend1 (r0 := .int _ _) (.tmp .nil) (.noN rfl rfl) ⟨Wk.v ?_, rfl, rfl⟩)
      have hk : c = 15 := by omega
      subst hk; exact .refl
     ·(try simp only [cmpI, errD_nil, qa, qb, qc, qd] at ht19)
      refine awp_seq (awp_region rfl ?_)
      refine sP (opp_mv (v := .err _) rfl rfl) rfl rfl ?_
      refine sP (opp_loadF rfl (ev_glob hG15) ty35) rfl rfl ?_
      refine sR (opr_call rfl rfl ent27 rfl (c27 c 16 (hall _ (by omega) h20) (hall _ (by omega) (by omega))) (AViews.refl _ rfl)) rfl rfl rfl ?_ -- d=26 t=4 a=24,25
      refine sP (opp_as (v := .bool _) rfl rfl) rfl rfl ?_
      refine awp_cond _ rfl (fun ht23 => ?_) (fun ht23 => ?_)
      ·(try simp only [cmpI, errD_nil, qa, qb, qc, qd] at ht23)
       refine awp_seq (awp_region rfl ?_)
       refine sP (opp_as (v := .int _ _) rfl rfl) rfl rfl ?_
       refine awp_ret ?_
       repeat (first | refine athen_ret ?_ | refine ain_ret ?_)
       refine apost_ret (aend1 (r0 := .int _ _) (.tmp .nil) (.noN rfl rfl) ⟨Wk.v ?_, rfl, rfl⟩)
       have hk : c = 16 := by omega
       subst hk; exact .refl
      ·(try simp only [cmpI, errD_nil, qa, qb, qc, qd] at ht23)
       refine awp_seq (awp_region rfl ?_)
       refine sP (opp_mv (v := .err _) rfl rfl) rfl rfl ?_
       refine sP (opp_loadF rfl (ev_glob hG16) ty35) rfl rfl ?_
       refine sR (opr_call rfl rfl ent27 rfl (c27 c 17 (hall _ (by omega) h20) (hall _ (by omega) (by omega))) (AViews.refl _ rfl)) rfl rfl rfl ?_ -- d=30 t=4 a=28,29
       refine sP (opp_as (v := .bool _) rfl rfl) rfl rfl ?_
       refine awp_cond _ rfl (fun ht27 => ?_) (fun ht27 => ?_)
       ·(try simp only [cmpI, errD_nil, qa, qb, qc, qd] at ht27)
        refine awp_seq (awp_region rfl ?_)
        refine sP (opp_as (v := .int _ _) rfl rfl) rfl rfl ?_
        refine awp_ret ?_
        repeat (first | refine athen_ret ?_ | refine ain_ret ?_)
        refine apost_ret (aend1 (r0 := .int _ _) (.tmp .nil) (.noN rfl rfl) ⟨Wk.v ?_, rfl, rfl⟩)
        have hk : c = 17 := by omega
        subst hk; exact .refl
       ·(try simp only [cmpI, errD_nil, qa, qb, qc, qd] at ht27)
        refine awp_seq (awp_region rfl ?_)
        refine sP (opp_mv (v := .err _) rfl rfl) rfl rfl ?_
        refine sP (opp_loadF rfl (ev_glob hG17) ty35) rfl rfl ?_
        refine sR (opr_call rfl rfl ent27 rfl (c27 c 18 (hall _ (by omega) h20) (hall _ (by omega) (by omega))) (AViews.refl _ rfl)) rfl rfl rfl ?_ -- d=34 t=4 a=32,33
        refine sP (opp_as (v := .bool _) rfl rfl) rfl rfl ?_
        refine awp_cond _ rfl (fun ht31 => ?_) (fun ht31 => ?_)
        ·(try simp only [cmpI, errD_nil, qa, qb, qc, qd] at ht31)
         refine awp_seq (awp_region rfl ?_)
         refine sP (opp_as (v := .int _ _) rfl rfl) rfl rfl ?_
         refine awp_ret ?_
         repeat (first | refine athen_ret ?_ | refine ain_ret ?_)
         refine apost_ret (aend1 (r0 := .int _ _) (.tmp .nil) (.noN rfl rfl) ⟨Wk.v ?_, rfl, rfl⟩)
         have hk : c = 18 := by omega
         subst hk; exact .refl
        ·(try simp only [cmpI, errD_nil, qa, qb, qc, qd] at ht31)
         refine awp_seq (awp_region rfl ?_)
         refine sP (opp_mv (v := .err _) rfl rfl) rfl rfl ?_
         refine sP (opp_loadF rfl (ev_glob hG18) ty35) rfl rfl ?_
         refine sR (opr_call rfl rfl ent27 rfl (c27 c 19 (hall _ (by omega) h20) (hall _ (by omega) (by omega))) (AViews.refl _ rfl)) rfl rfl rfl ?_ -- d=38 t=4 a=36,37
         refine sP (opp_as (v := .bool _) rfl rfl) rfl rfl ?_
         refine awp_cond _ rfl (fun ht35 => ?_) (fun ht35 => ?_)
         ·(try simp only [cmpI, errD_nil, qa, qb, qc, qd] at ht35)
          refine awp_seq (awp_region rfl ?_)
          refine sP (opp_as (v := .int _ _) rfl rfl) rfl rfl ?_
          refine awp_ret ?_
          repeat (first | refine athen_ret ?_ | refine ain_ret ?_)
          refine apost_ret (aend1 (r0 := .int _ _) (.tmp .nil) (.noN rfl rfl) ⟨Wk.v ?_, rfl, rfl⟩)
          have hk : c = 19 := by omega
          subst hk; exact .refl
         ·(try simp only [cmpI, errD_nil, qa, qb, qc, qd] at ht35)
          refine awp_seq (awp_region rfl ?_)
          refine sP (opp_mv (v := .err _) rfl rfl) rfl rfl ?_
          refine sP (opp_loadF rfl (ev_glob hG19) ty35) rfl rfl ?_
          refine sR (opr_call rfl rfl ent27 rfl (c27 c 20 (hall _ (by omega) h20) (hall _ (by omega) (by omega))) (AViews.refl _ rfl)) rfl rfl rfl ?_ -- d=42 t=4 a=40,41
          refine sP (opp_as (v := .bool _) rfl rfl) rfl rfl ?_
          refine awp_cond _ rfl (fun ht39 => ?_) (fun ht39 => ?_)
          ·(try simp only [cmpI, errD_nil, qa, qb, qc, qd] at ht39)
           refine awp_seq (awp_region rfl ?_)
           refine sP (opp_as (v := .int _ _) rfl rfl) rfl rfl ?_
           refine awp_ret ?_
           repeat (first | refine athen_ret ?_ | refine ain_ret ?_)
           refine apost_ret (aend1 (r0 := .int _ _) (.tmp .nil) (.noN rfl rfl) ⟨Wk.v ?_, rfl, rfl⟩)
           have hk : c = 20 := by omega
           subst hk; exact .refl
          ·(try simp only [cmpI, errD_nil, qa, qb, qc, qd] at ht39)
           refine awp_skip (awp_seq (awp_region rfl ?_))
           refine sP (opp_as (v := .int _ _) rfl rfl) rfl rfl ?_
           refine awp_ret ?_
           repeat (first | refine athen_ret ?_ | refine ain_ret ?_)
           refine apost_ret (aend1 (r0 := .int _ _) (.tmp .nil) (.noN rfl rfl) ⟨Wk.v ?_, rfl, rfl⟩)
           exfalso; omega
theorem c9 (c : Nat) (h1 : 1 ≤ c) (h20 : c ≤ 20) (hS : Sents cds gl) : APure (V ea cds gl) 9 [.err (.code c)] false (.int .i64 c) := by
 have hS0 := hS
 obtain ⟨hG2, hG3, hG4, hG1, hG0, hG5, hG6, hG7, hG8, hG9, hG10, hG11, hG12, hG13, hG14, hG15, hG16, hG17, hG18, hG19, hT, hall⟩ := hS
 refine acalls_of_body (N := 48) Tryd.func9 rfl rfl (Nat.le_of_ble_eq_true rfl) fun C hV hN hM hO => ?_
 obtain ⟨_, _, w0, G0, σ0, _, own0⟩ := C; dsimp only at hV hN hM hO; subst hV; subst hN; subst hM
 refine awp_seq (awp_region rfl ?_)
 refine sP (opp_as (v := .int _ _) rfl rfl) rfl rfl ?_
 refine awp_seq (awp_block (awp_seq (awp_region rfl ?_)))
 refine sP (opp_mv (v := .err _) rfl rfl) rfl rfl ?_
 refine sP (opp_errNil rfl rfl rfl un35 (.inl ⟨rfl, rfl⟩)) rfl rfl ?_
 refine sP (opp_as (v := .bool _) rfl rfl) rfl rfl ?_
 refine awp_cond _ rfl (fun ht3 => ?_) (fun ht3 => ?_)
 ·(try simp only [cmpI, errD_nil, qa, qb, qc, qd] at ht3)
  cases ht3
 ·(try simp only [cmpI, errD_nil, qa, qb, qc, qd] at ht3)
  refine awp_seq (awp_region rfl ?_)
  refine sP (opp_mv (v := .err _) rfl rfl) rfl rfl ?_
  refine sP (opp_loadF rfl (ev_glob hG2) ty35) rfl rfl ?_
  refine sR (opr_call rfl rfl ent27 rfl (c27 c 1 (hall _ (by omega) h20) (hall _ (by omega) (by omega))) (AViews.refl _ rfl)) rfl rfl rfl ?_ -- d=9 t=4 a=7,8
  refine sP (opp_as (v := .bool _) rfl rfl) rfl rfl ?_
  refine awp_cond _ rfl (fun ht6 => ?_) (fun ht6 => ?_)
  ·(try simp only [cmpI, errD_nil, qa, qb, qc, qd] at ht6)
   refine awp_seq (awp_region rfl ?_)
   refine sP (opp_as (v := .int _ _) rfl rfl) rfl rfl ?_
   refine awp_ret ?_
   repeat (first | refine athen_ret ?_ | refine ain_ret ?_)
   refine apost_ret (aend1 (r0 := .int _ _) (.tmp .nil) (.noN rfl rfl) ⟨Wk.v ?_, rfl, rfl⟩)
   have hk : c = 1 := by omega
   subst hk; exact .refl
  ·(try simp only [cmpI, errD_nil, qa, qb, qc, qd] at ht6)
   refine awp_seq (awp_region rfl ?_)
   refine sP (opp_mv (v := .err _) rfl rfl) rfl rfl ?_
   refine sP (opp_loadF rfl (ev_glob hG3) ty35) rfl rfl ?_
   refine sR (opr_call rfl rfl ent27 rfl (c27 c 2 (hall _ (by omega) h20) (hall _ (by omega) (by omega))) (AViews.refl _ rfl)) rfl rfl rfl ?_ -- d=13 t=4 a=11,12
   refine sP (opp_as (v := .bool _) rfl rfl) rfl rfl ?_
   refine awp_cond _ rfl (fun ht10 => ?_) (fun ht10 => ?_)
   ·(try simp only [cmpI, errD_nil, qa, qb, qc, qd] at ht10)
    refine awp_seq (awp_region rfl ?_)
    refine sP (opp_as (v := .int _ _) rfl rfl) rfl rfl ?_
    refine awp_ret ?_
    repeat (first | refine athen_ret ?_ | refine ain_ret ?_)
    refine apost_ret (aend1 (r0 := .int _ _) (.tmp .nil) (.noN rfl rfl) ⟨Wk.v ?_, rfl, rfl⟩)
    have hk : c = 2 := by omega
    subst hk; exact .refl
   ·(try simp only [cmpI, errD_nil, qa, qb, qc, qd] at ht10)
    refine awp_seq (awp_region rfl ?_)
    refine sP (opp_mv (v := .err _) rfl rfl) rfl rfl ?_
    refine sP (opp_loadF rfl (ev_glob hG4) ty35) rfl rfl ?_
    refine sR (opr_call rfl rfl ent27 rfl (c27 c 3 (hall _ (by omega) h20) (hall _ (by omega) (by omega))) (AViews.refl _ rfl)) rfl rfl rfl ?_ -- d=17 t=4 a=15,16
    refine sP (opp_as (v := .bool _) rfl rfl) rfl rfl ?_
    refine awp_cond _ rfl (fun ht14 => ?_) (fun ht14 => ?_)
    ·(try simp only [cmpI, errD_nil, qa, qb, qc, qd] at ht14)
     refine awp_seq (awp_region rfl ?_)
     refine sP (opp_as (v := .int _ _) rfl rfl) rfl rfl ?_
     refine awp_ret ?_
     repeat (first | refine athen_ret ?_ | refine ain_ret ?_)
     refine apost_ret (aend1 (r0 := .int _ _) (.tmp .nil) (.noN rfl rfl) ⟨Wk.v ?_, rfl, rfl⟩)
     have hk : c = 3 := by omega
     subst hk; exact .refl
    ·(try simp only [cmpI, errD_nil, qa, qb, qc, qd] at ht14)
     refine awp_seq (awp_region rfl ?_)
     refine sP (opp_mv (v := .err _) rfl rfl) rfl rfl ?_
     refine sP (opp_loadF rfl (ev_glob hG1) ty35) rfl rfl ?_
     refine sR (opr_call rfl rfl ent27 rfl (c27 c 4 (hall _ (by omega) h20) (hall _ (by omega) (by omega))) (AViews.refl _ rfl)) rfl rfl rfl ?_ -- d=21 t=4 a=19,20
     refine sP (opp_as (v := .bool _) rfl rfl) rfl rfl ?_
     refine awp_cond _ rfl (fun ht18 => ?_) (fun ht18 => ?_)
     ·(try simp only [cmpI, errD_nil, qa, qb, qc, qd] at ht18)
      refine awp_seq (awp_region rfl ?_)
      refine sP (opp_as (v := .int _ _) rfl rfl) rfl rfl ?_
      refine awp_ret ?_
      repeat (first | refine athen_ret ?_ | refine ain_ret ?_)
      refine apost_ret (aend1 (r0 := .int _ _) (.tmp .nil) (.noN rfl rfl) ⟨Wk.v ?_, rfl, rfl⟩)
      have hk : c = 4 := by omega
      subst hk; exact .refl
     ·(try simp only [cmpI, errD_nil, qa, qb, qc, qd] at ht18)
      refine awp_seq (awp_region rfl ?_)
      refine sP (opp_mv (v := .err _) rfl rfl) rfl rfl ?_
      refine sP (opp_loadF rfl (ev_glob hG0) ty35) rfl rfl ?_
      refine sR (opr_call rfl rfl ent27 rfl (c27 c 5 (hall _ (by omega) h20) (hall _ (by omega) (by omega))) (AViews.refl _ rfl)) rfl rfl rfl ?_ -- d=25 t=4 a=23,24
      refine sP (opp_as (v := .bool _) rfl rfl) rfl rfl ?_
      refine awp_cond _ rfl (fun ht22 => ?_) (fun ht22 => ?_)
      ·(try simp only [cmpI, errD_nil, qa, qb, qc, qd] at ht22)
       refine awp_seq (awp_region rfl ?_)
       refine sP (opp_as (v := .int _ _) rfl rfl) rfl rfl ?_
       refine awp_ret ?_
       repeat (first | refine athen_ret ?_ | refine ain_ret ?_)
       refine apost_ret (aend1 (r0 := .int _ _) (.tmp .nil) (.noN rfl rfl) ⟨Wk.v ?_, rfl, rfl⟩)
       have hk : c = 5 := by omega
       subst hk; exact .refl
      ·(try simp only [cmpI, errD_nil, qa, qb, qc, qd] at ht22)
       refine awp_seq (awp_region rfl ?_)
       refine sP (opp_mv (v := .err _) rfl rfl) rfl rfl ?_
       refine sP (opp_loadF rfl (ev_glob hG5) ty35) rfl rfl ?_
       refine sR (opr_call rfl rfl ent27 rfl (c27 c 6 (hall _ (by omega) h20) (hall _ (by omega) (by omega))) (AViews.refl _ rfl)) rfl rfl rfl ?_ -- d=29 t=4 a=27,28
       refine sP (opp_as (v := .bool _) rfl rfl) rfl rfl ?_
       refine awp_cond _ rfl (fun ht26 => ?_) (fun ht26 => ?_)
       ·(try simp only [cmpI, errD_nil, qa, qb, qc, qd] at ht26)
        refine awp_seq (awp_region rfl ?_)
        refine sP (opp_as (v := .int _ _) rfl rfl) rfl rfl ?_
        refine awp_ret ?_
        repeat (first | refine athen_ret ?_ | refine ain_ret ?_)
        refine apost_ret (aend1 (r0 := .int _ _) (.tmp .nil) (.noN rfl rfl) ⟨Wk.v ?_, rfl, rfl⟩)
        have hk : c = 6 := by omega
        subst hk; exact .refl
       ·(try simp only [cmpI, errD_nil, qa, qb, qc, qd] at ht26)
        refine awp_seq (awp_region rfl ?_)
        refine sP (opp_mv (v := .err _) rfl rfl) rfl rfl ?_
        refine sP (opp_loadF rfl (ev_glob hG6) ty35) rfl rfl ?_
        refine sR (opr_call rfl rfl ent27 rfl (c27 c 7 (hall _ (by omega) h20) (hall _ (by omega) (by omega))) (AViews.refl _ rfl)) rfl rfl rfl ?_ -- d=33 t=4 a=31,32
        refine sP (opp_as (v := .bool _) rfl rfl) rfl rfl ?_
        refine awp_cond _ rfl (fun ht30 => ?_) (fun ht30 => ?_)
        ·(try simp only [cmpI, errD_nil, qa, qb, qc, qd] at ht30)
         refine awp_seq (awp_region rfl ?_)
         refine sP (opp_as (v := .int _ _) rfl rfl) rfl rfl ?_
         refine awp_ret ?_
         repeat (first | refine athen_ret ?_ | refine ain_ret ?_)
         refine apost_ret (aend1 (r0 := .int _ _) (.tmp .nil) (.noN rfl rfl) ⟨Wk.v ?_, rfl, rfl⟩)
         have hk : c = 7 := by omega
         subst hk; exact .refl
        ·(try simp only [cmpI, errD_nil, qa, qb, qc, qd] at ht30)
         refine awp_seq (awp_region rfl ?_)
         refine sP (opp_mv (v := .err _) rfl rfl) rfl rfl ?_
         refine sP (opp_loadF rfl (ev_glob hG7) ty35) rfl rfl ?_
         refine sR (opr_call rfl rfl ent27 rfl (c27 c 8 (hall _ (by omega) h20) (hall _ (by omega) (by omega))) (AViews.refl _ rfl)) rfl rfl rfl ?_ -- d=37 t=4 a=35,36
         refine sP (opp_as (v := .bool _) rfl rfl) rfl rfl ?_
         refine awp_cond _ rfl (fun ht34 => ?_) (fun ht34 => ?_)
         ·(try simp only [cmpI, errD_nil, qa, qb, qc, qd] at ht34)
          refine awp_seq (awp_region rfl ?_)
          refine sP (opp_as (v := .int _ _) rfl rfl) rfl rfl ?_
          refine awp_ret ?_
          repeat (first | refine athen_ret ?_ | refine ain_ret ?_)
          refine apost_ret (aend1 (r0 := .int _ _) (.tmp .nil) (.noN rfl rfl) ⟨Wk.v ?_, rfl, rfl⟩)
          have hk : c = 8 := by omega
          subst hk; exact .refl
         ·(try simp only [cmpI, errD_nil, qa, qb, qc, qd] at ht34)
          refine awp_seq (awp_region rfl ?_)
          refine sP (opp_mv (v := .err _) rfl rfl) rfl rfl ?_
          refine sP (opp_loadF rfl (ev_glob hG8) ty35) rfl rfl ?_
          refine sR (opr_call rfl rfl ent27 rfl (c27 c 9 (hall _ (by omega) h20) (hall _ (by omega) (by omega))) (AViews.refl _ rfl)) rfl rfl rfl ?_ -- d=41 t=4 a=39,40
          refine sP (opp_as (v := .bool _) rfl rfl) rfl rfl ?_
          refine awp_cond _ rfl (fun ht38 => ?_) (fun ht38 => ?_)
          ·(try simp only [cmpI, errD_nil, qa, qb, qc, qd] at ht38)
           refine awp_seq (awp_region rfl ?_)
           refine sP (opp_as (v := .int _ _) rfl rfl) rfl rfl ?_
           refine awp_ret ?_
           repeat (first | refine athen_ret ?_ | refine ain_ret ?_)
           refine apost_ret (aend1 (r0 := .int _ _) (.tmp .nil) (.noN rfl rfl) ⟨Wk.v ?_, rfl, rfl⟩)
           have hk : c = 9 := by omega
           subst hk; exact .refl
          ·(try simp only [cmpI, errD_nil, qa, qb, qc, qd] at ht38)
           refine awp_seq (awp_region rfl ?_)
           refine sP (opp_mv (v := .err _) rfl rfl) rfl rfl ?_
           refine sP (opp_loadF rfl (ev_glob hG9) ty35) rfl rfl ?_
           refine sR (opr_call rfl rfl ent27 rfl (c27 c 10 (hall _ (by omega) h20) (hall _ (by omega) (by omega))) (AViews.refl _ rfl)) rfl rfl rfl ?_ -- d=45 t=4 a=43,44
           refine sP (opp_as (v := .bool _) rfl rfl) rfl rfl ?_
           refine awp_cond _ rfl (fun ht42 => ?_) (fun ht42 => ?_)
           ·(try simp only [cmpI, errD_nil, qa, qb, qc, qd] at ht42)
            refine awp_seq (awp_region rfl ?_)
            refine sP (opp_as (v := .int _ _) rfl rfl) rfl rfl ?_
            refine awp_ret ?_
            repeat (first | refine athen_ret ?_ | refine ain_ret ?_)
            refine apost_ret (aend1 (r0 := .int _ _) (.tmp .nil) (.noN rfl rfl) ⟨Wk.v ?_, rfl, rfl⟩)
            have hk : c = 10 := by omega
            subst hk; exact .refl
           ·(try simp only [cmpI, errD_nil, qa, qb, qc, qd] at ht42)
            refine awp_skip (awp_seq (awp_region rfl ?_))
            refine sP (opp_mv (v := .err _) rfl rfl) rfl rfl ?_
            refine sR (opr_call rfl rfl ent28 rfl (c28 c (by omega) h20 hS0) (AViews.refl _ rfl)) rfl rfl rfl ?_ -- d=47 t=3 a=46
            refine sP (opp_as (v := .int _ _) rfl rfl) rfl rfl ?_
            refine awp_ret ?_
            repeat (first | refine athen_ret ?_ | refine ain_ret ?_)
            refine apost_ret (aend1 (r0 := .int _ _) (.tmp .nil) (.noN rfl rfl) ⟨Wk.v ?_, rfl, rfl⟩)
            exact .refl
theorem cn9 (hS : Sents cds gl) : APure (V ea cds gl) 9 [.err .nil] false (.int .i64 0) := by
 have hS0 := hS
 obtain ⟨hG2, hG3, hG4, hG1, hG0, hG5, hG6, hG7, hG8, hG9, hG10, hG11, hG12, hG13, hG14, hG15, hG16, hG17, hG18, hG19, hT, hall⟩ := hS
 refine acalls_of_body (N := 48) Tryd.func9 rfl rfl (Nat.le_of_ble_eq_true rfl) fun C hV hN hM hO => ?_
 obtain ⟨_, _, w0, G0, σ0, _, own0⟩ := C; dsimp only at hV hN hM hO; subst hV; subst hN; subst hM
 refine awp_seq (awp_region rfl ?_)
 refine sP (opp_as (v := .int _ _) rfl rfl) rfl rfl ?_
 refine awp_seq (awp_block (awp_seq (awp_region rfl ?_)))
 refine sP (opp_mv (v := .err _) rfl rfl) rfl rfl ?_
 refine sP (opp_errNil rfl rfl rfl un35 (.inl ⟨rfl, rfl⟩)) rfl rfl ?_
 refine sP (opp_as (v := .bool _) rfl rfl) rfl rfl ?_
 refine awp_cond _ rfl (fun ht3 => ?_) (fun ht3 => ?_)
 ·(try simp only [cmpI, errD_nil, qa, qb, qc, qd] at ht3)
  refine awp_seq (awp_region rfl ?_)
  refine sP (opp_as (v := .int _ _) rfl rfl) rfl rfl ?_
  refine awp_ret ?_
  repeat (first | refine athen_ret ?_ | refine ain_ret ?_)
  refine apost_ret (aend1 (r0 := .int _ _) (.tmp .nil) (.noN rfl rfl) ⟨Wk.v ?_, rfl, rfl⟩)
  exact .refl
 ·(try simp only [cmpI, errD_nil, qa, qb, qc, qd] at ht3)
  exfalso; simp [ErrD.isNil] at ht3
end
end Go.Proofs.YtpmgdmbcdohgcaaDoor
/- The engine, 26: errors with a place are made; calls that are told a part of a block (my own text; any program). -/
set_option linter.unusedSimpArgs false
namespace Go.Fy
open Go.RowKit
section
variable {V : Env} {o : Oper} {ρ : Operand → AV} {η : Nat → Option AV}
/-- An error with a place: a pointer to what stays as it is, in an interface. -/
theorem opp_mkAt {t : TypeId} {x : Operand} {p : Int} {e : ErrD} (ho : o.op = .makeInterface t x) (hx : ρ x = .fptr (.agg [.int .i64 p, .err e])) (hc : V.P.concrete t = true) (ht : V.tAt = t) : OpP V o ρ η (.err (.at p e)) :=
  opp_val fun E ε hV _ h _ => by
    have h1 := h x (by simp [ho, Op.operands])
    rw [hx] at h1
    simp only [RelV, Rel, RelL, List.cons.injEq, and_true] at h1
    obtain ⟨b, hb, hs, hG, ds, hh, hr⟩ := h1
    obtain ⟨c1, d1, rfl, rfl, c2, d2, rfl, ⟨u, rfl, hu⟩, rfl⟩ := hr
    refine ⟨.iface t (ε x), ?_, ?_⟩
    · simp only [execOp, ho, Sem.run_bind, run_makeInterface _ t _ hc, Result.andThen, Sem.run_pure]
    · have hb' : b = ⟨b.block, b.off, none⟩ := by rw [← hs]
      simp only [RelV, ErrRel]
      refine ⟨b.block, b.off, u, ?_, hG, ?_, ?_, ErrRel.le E.bare_le e u hu⟩
      · rw [hb, hV, ht, ← hb']
      · have := hh 0 (.int .i64 p) rfl
        simpa using this
      · have := hh 1 u rfl
        simpa using this
end
/-- A row that is nil or one's own. -/
def rowA (nn : Bool) (i z n : Nat) : AV := bif nn then .sl z true 0 (fun _ => .top) else .osl i z 0 n n
def rowB (nn : Bool) (z n : Nat) (f : Nat → AV) : Option AV := bif nn then none else some (.arr z n f)
theorem rowA_one (nn : Bool) (i z n : Nat) : (rowA nn i z n).one = true := by cases nn <;> rfl
/-- A row that is nil just if it is empty. -/
def rowV (z n : Nat) (f : Nat → AV) : AV := .sl z (decide (n = 0)) n f
theorem rowV_one (z n : Nat) (f : Nat → AV) : (rowV z n f).one = true := rfl
/-! ### A part of a block's fields: the others stay as they are, whatever is known of them. -/
def mixB : List Bool → List AV → Nat → (Nat → AV) → List AV
  | b :: m, x :: l, k, g => (bif b then g k else x) :: mixB m l (k + 1) g
  | _, _, _, _ => []
theorem mixB_congr {g g' : Nat → AV} : ∀ (m : List Bool) (l : List AV) (k : Nat), (∀ j, k ≤ j → g j = g' j) → mixB m l k g = mixB m l k g'
  | [], _, _, _ => rfl
  | _ :: _, [], _, _ => rfl
  | b :: m, x :: l, k, h => by
    simp only [mixB, h k (Nat.le_refl k), mixB_congr m l (k + 1) fun j hj => h j (by omega)]
def oneB : List Bool → List AV → Bool
  | b :: m, x :: l => (!b || x.one) && oneB m l
  | _, _ => true
theorem oneB_out : ∀ {m : List Bool} {l : List AV}, oneB m l = true → ∀ b x, (b, x) ∈ m.zip l → b = true → x.one = true
  | [], _, _, b, x, h, _ => by simp at h
  | _ :: _, [], _, b, x, h, _ => by simp at h
  | c :: m, y :: l, h, b, x, hm, hb => by
    simp only [oneB, Bool.and_eq_true, Bool.or_eq_true] at h
    rw [List.zip_cons_cons] at hm
    rcases List.mem_cons.1 hm with e | e
    · obtain ⟨rfl, rfl⟩ := Prod.mk.inj e
      subst hb
      exact h.1.resolve_left (by simp)
    · exact oneB_out h.2 b x e hb
theorem mix_down {E : RE} : ∀ (m : List Bool) (Y : List AV) (cs : List Value) (k : Nat) (G : Nat → AV), m.length = Y.length → (∀ b x, (b, x) ∈ m.zip Y → b = true → x.one = true) → (∀ j, j < Y.length → Y[j]? = some (G (k + j))) → RelL E Y cs →
    ∃ vs : Nat → Value, RelL E (mixB m Y k fun j => .val (vs j)) cs ∧ ∀ (E' : RE) (B : List AV) (cs' : List Value), B.length = m.length → E.le E' → RelL E' (mixB m B k fun j => .val (vs j)) cs' → RelL E' (mixB m B k G) cs'
  | [], [], cs, k, G, _, _, _, h => ⟨fun _ => undef, h, fun E' B cs' hB _ h' => by
      cases B with
      | nil => exact h'
      | cons _ _ => simp at hB⟩
  | [], _ :: _, _, _, _, hl, _, _, _ => by simp at hl
  | _ :: _, [], _, _, _, hl, _, _, _ => by simp at hl
  | b :: m, x :: Y, cs, k, G, hl, ho, hG, h => by
    simp only [RelL] at h
    obtain ⟨c, d, rfl, h1, h2⟩ := h
    obtain ⟨vs, h3, h4⟩ := mix_down m Y d (k + 1) G (by simpa using hl) (fun b' x' hm => ho b' x' (by simp [hm])) (fun j hj => by
      have := hG (j + 1) (by simp; omega)
      rw [List.getElem?_cons_succ] at this
      rw [this, show k + (j + 1) = k + 1 + j by omega]) h2
    have hG0 : G k = x := by
      have := hG 0 (by simp)
      simpa using this.symm
    cases b with
    | false =>
      refine ⟨vs, ?_, fun E' B cs' hB hle h' => ?_⟩
      · simp only [mixB, cond_false, RelL]; exact ⟨c, d, rfl, h1, h3⟩
      · cases B with
        | nil => simp at hB
        | cons y B =>
          simp only [mixB, cond_false, RelL] at h' ⊢
          obtain ⟨c', d', rfl, e1, e2⟩ := h'
          exact ⟨c', d', rfl, e1, h4 E' B d' (by simpa using hB) hle e2⟩
    | true =>
      have hx : x.one = true := ho true x (by simp) rfl
      have hlen := Rel.length x c h1
      have h1' : c.length = 1 := by rw [hlen]; cases x <;> first | rfl | cases hx
      obtain ⟨v, rfl⟩ := List.length_eq_one_iff.1 h1'
      have hcong : ∀ l : List AV, mixB m l (k + 1) (fun j => .val ((fun i => if i = k then v else vs i) j)) = mixB m l (k + 1) (fun j => .val (vs j)) := fun l => mixB_congr m l (k + 1) fun j hj => by
        have : j ≠ k := by omega
        simp [this]
      refine ⟨fun j => if j = k then v else vs j, ?_, fun E' B cs' hB hle h' => ?_⟩
      · simp only [mixB, cond_true, RelL]
        rw [hcong]
        exact ⟨[v], d, rfl, by simp only [if_true, Rel]; exact ⟨trivial, Rel.one h1 hx⟩, h3⟩
      · cases B with
        | nil => simp at hB
        | cons y B =>
          simp only [mixB, cond_true, RelL] at h' ⊢
          rw [hcong] at h'
          obtain ⟨c', d', rfl, e1, e2⟩ := h'
          simp only [if_true, Rel] at e1
          refine ⟨[v], d', by rw [e1.1], ?_, h4 E' B d' (by simpa using hB) hle e2⟩
          rw [hG0]; exact Rel.le hle x [v] h1
/-- The same blocks; one of them is told otherwise. -/
theorem ConcS.swap {C : Ctx} {F : List (Nat × AV)} {H H' : List (Nat × Option AV)} {nm : List Nat} {a : Act} {w : World} {σ : Nat → Nat} (hc : ConcS C ⟨F, H, nm⟩ a w σ) (j0 : Nat) (x y : AV) (hx : getH H j0 = some x) (hy : getH H' j0 = some y)
    (hne : ∀ i, i ≠ j0 → getH H' i = getH H i) (hB : ∀ (cs : List Value), Rel (C.RE ⟨F, H, nm⟩ w σ) x cs → (∃ (c : Array Value) (t : TypeId) (fr : Nat × Nat) (rest : List Value), w.heap[σ j0]? = some (.cells c t fr) ∧ c.toList = cs ++ rest) → Rel (C.RE ⟨F, H, nm⟩ w σ) y cs) :
    ConcS C ⟨F, H', nm⟩ a w σ ∧ C.RE ⟨F, H', nm⟩ w σ = C.RE ⟨F, H, nm⟩ w σ := by
  have hsome : ∀ i, (∃ z, getH H' i = some z) ↔ ∃ z, getH H i = some z := fun i => by
    by_cases e : i = j0
    · subst e; rw [hx, hy]; simp
    · rw [hne i e]
  have hG : C.G H' w σ = C.G H w σ := by
    funext b
    refine propext ⟨?_, ?_⟩
    · rintro (h | ⟨h1, h2, h3⟩)
      · exact .inl h
      · exact .inr ⟨h1, h2, fun i z hz e => by obtain ⟨z', hz'⟩ := (hsome i).2 ⟨z, hz⟩; exact h3 i z' hz' e⟩
    · rintro (h | ⟨h1, h2, h3⟩)
      · exact .inl h
      · exact .inr ⟨h1, h2, fun i z hz e => by obtain ⟨z', hz'⟩ := (hsome i).1 ⟨z, hz⟩; exact h3 i z' hz' e⟩
  have hRE : C.RE ⟨F, H', nm⟩ w σ = C.RE ⟨F, H, nm⟩ w σ := by simp only [Ctx.RE, hG]
  refine ⟨⟨hc.ok, hc.defers, hc.size, hc.kept, hc.σ0, fun i j u v hi hj e => ?_, fun i u hi => ?_, by rw [hRE]; exact hc.env, by rw [hRE]; exact hc.slot⟩, hRE⟩
  · obtain ⟨u', hu'⟩ := (hsome i).1 ⟨u, hi⟩
    obtain ⟨v', hv'⟩ := (hsome j).1 ⟨v, hj⟩
    exact hc.inj i j u' v' hu' hv' e
  · rw [hRE]
    by_cases e : i = j0
    · subst e
      have hyu : y = u := by have h2 : getH H' i = some u := hi; rw [hy] at h2; exact Option.some.inj h2
      subst hyu
      obtain ⟨h1, h2, h3, c, t, fr, cs, rest, g1, g2, g3, g4⟩ := hc.blk i x hx
      exact ⟨h1, h2, h3, c, t, fr, cs, rest, g1, g2, hB cs g3 ⟨c, t, fr, rest, g1, g2⟩, g4⟩
    · exact hc.blk i u (by have h2 : getH H' i = some u := hi; rw [hne i e] at h2; exact h2)
section
variable {C : Ctx} {o : Oper} {ρ : Operand → AV} {η : Nat → Option AV}
/-- A call of a function that is told only some of the fields of its first block (m: the others). -/
theorem opr_callGF {fo : Operand} {as1 : Array Operand} {ts : Array TypeId} {g : FuncId} {args : List AV} {r r1 : AV} {H H0 H1 : List (Nat × Option AV)} {n1 : List Nat} {rl : List (Nat × Nat)} {i0 j0 : Nat} {A B B' Y Z : List AV} (m : List Bool)
    (ho : o.op = .call { callee := .value fo, args := as1, argTypes := ts }) (hf : ρ fo = .fn g []) (he : Ent C.V.P g)
    (h : ∀ vs : Nat → Value, AGen C.V g args ((i0, some (.agg (mixB m A 0 fun k => .val (vs k)))) :: H) r ((i0, some (.agg (mixB m B 0 fun k => .val (vs k)))) :: H0))
    (hY : η j0 = some (.agg Y)) (hj : ap rl i0 = j0) (hm : m.length = Y.length) (hB : B'.length = m.length) (hone : oneB m Y = true)
    (hv : AArg C rl (i0 :: H.map (·.1)) (as1.toList.map ρ) args)
    (hin : ∀ vs : Nat → Value, HIn (fun i => bif Nat.beq i j0 then some (.agg (mixB m Y 0 fun k => .val (vs k))) else η i) rl (i0 :: H.map (·.1)) ((i0, some (.agg (mixB m A 0 fun k => .val (vs k)))) :: H))
    (hr : r.ren (ap rl) = r1) (hH : (H0.map fun p => (ap rl p.1, p.2.map (AV.ren (ap rl)))) = H1) (hBr : ∀ vs : Nat → Value, (AV.agg (mixB m B 0 fun k => .val (vs k))).ren (ap rl) = .agg (mixB m B' 0 fun k => .val (vs k)))
    (hZ : (mixB m B' 0 fun k => Y.getD k .top) = Z)
    (hn1 : ((H0.filter fun p => !keyIn ((i0, none) :: H) p.1).map fun p => ap rl p.1) = n1) (hok : okG rl ((i0, none) :: H) ((i0, none) :: H0) = true) :
    OpR C o ρ η ⟨r1, (j0, some (.agg Z)) :: H1, n1⟩ := by
  intro hd S hρ hη hn a w ⟨σ, hc⟩
  obtain ⟨F, HS, nmS⟩ := S
  have hYS : getH HS j0 = some (.agg Y) := hη _ _ hY
  obtain ⟨k1, k2, k3, c, t, fr, cs, rest, g1, g2, g3, g4⟩ := hc.blk j0 _ hYS
  simp only [Rel] at g3
  obtain ⟨vs, hdown, hup⟩ := mix_down m Y cs 0 (fun k => Y.getD k .top) hm (oneB_out hone) (fun j hj => by simp [hj]) g3
  obtain ⟨hc2, hRE⟩ := hc.swap (H' := (j0, some (.agg (mixB m Y 0 fun k => .val (vs k)))) :: HS) j0 _ _ hYS (by rw [getH_cons, if_pos rfl]) (fun i hi => by rw [getH_cons, if_neg (Ne.symm hi)])
    (fun cs' hcs' ⟨c', t', fr', rest', g5, g6⟩ => by
      have e1 : (.cells c t fr : Obj) = .cells c' t' fr' := Option.some.inj (g1.symm.trans g5)
      have e2 : c = c' := by cases e1; rfl
      subst e2
      have e3 : cs' = cs := by
        have e4 : cs'.length = cs.length := by
          simp only [Rel] at hcs'
          rw [RelL.length _ _ hcs', RelL.length _ _ g3]
        exact (List.append_inj (g6.symm.trans g2) e4).1
      subst e3
      simp only [Rel]; exact hdown)
  have hev : ∀ x, ev C.V F x = ev C.V F x := fun _ => rfl
  have hcall := opr_callG_le (C := C) (o := o) (ρ := ρ) (η := fun i => bif Nat.beq i j0 then some (.agg (mixB m Y 0 fun k => .val (vs k))) else η i) (rl := rl) ho hf he (h vs) hv (hin vs) hr rfl rfl (by
      simp only [okG, Bool.and_eq_true, List.all_cons, List.all_eq_true] at hok ⊢
      exact ⟨hok.1, hok.2⟩) hd ⟨F, (j0, some (.agg (mixB m Y 0 fun k => .val (vs k)))) :: HS, nmS⟩ hρ (fun i y hi => by
      show getH ((j0, _) :: HS) i = some y
      rw [getH_cons]
      by_cases e : j0 = i
      · subst e; rw [if_pos rfl]; simpa [Nat.beq_refl] using hi
      · rw [if_neg e]
        have : Nat.beq i j0 = false := Bool.eq_false_iff.2 fun e' => e (Nat.eq_of_beq_eq_true e').symm
        simp only [this, cond_false] at hi
        exact hη i y hi) (fun n hn' => hn n (by
      have e1 : ∀ p : Nat × Option AV, keyIn ((i0, some (.agg (mixB m A 0 fun k => .val (vs k)))) :: H) p.1 = keyIn ((i0, none) :: H) p.1 := fun p => rfl
      have e2 : keyIn ((i0, some (.agg (mixB m A 0 fun k => .val (vs k)))) :: H) i0 = true := by simp [keyIn, Nat.beq_refl]
      rw [← hn1]
      have : ((i0, some (AV.agg (mixB m B 0 fun k => .val (vs k)))) :: H0).filter (fun p => !keyIn ((i0, some (.agg (mixB m A 0 fun k => .val (vs k)))) :: H) p.1) = H0.filter fun p => !keyIn ((i0, none) :: H) p.1 := by
        rw [List.filter_cons, e2]; rfl
      rw [this] at hn'
      exact hn')) a w σ hc2
  refine Oper.wp_mono (fun a' w' ⟨σ', h1, h2, _⟩ => ⟨σ', ?_⟩) hcall
  subst hZ
  have hnmeq : (((i0, some (AV.agg (mixB m B 0 fun k => .val (vs k)))) :: H0).filter (fun p => !keyIn ((i0, some (.agg (mixB m A 0 fun k => .val (vs k)))) :: H) p.1)).map (fun p => ap rl p.1) = n1 := by
    have e2 : keyIn ((i0, some (.agg (mixB m A 0 fun k => .val (vs k)))) :: H) i0 = true := by simp [keyIn, Nat.beq_refl]
    rw [List.filter_cons, e2, ← hn1]; rfl
  have hHeq : ((i0, some (AV.agg (mixB m B 0 fun k => .val (vs k)))) :: H0).map (fun p => (ap rl p.1, p.2.map (AV.ren (ap rl)))) = (j0, some (.agg (mixB m B' 0 fun k => .val (vs k)))) :: H1 := by
    rw [List.map_cons, hH, Option.map_some, hBr, hj]
  rw [hnmeq, hHeq] at h1 h2
  have hle : (C.RE ⟨F, HS, nmS⟩ w σ).le _ := hRE ▸ h2
  have hsw := ConcS.swap (C := C) (a := a') (H' := ((j0, some (.agg (mixB m B' 0 fun k => Y.getD k .top))) :: H1) ++ HS) (F := (St.upd ⟨F, HS, nmS⟩ o.dst ⟨r1, (j0, some (.agg (mixB m B' 0 fun k => Y.getD k .top))) :: H1, n1⟩).F) h1 j0 (.agg (mixB m B' 0 fun k => .val (vs k))) (.agg (mixB m B' 0 fun k => Y.getD k .top)) (by
      show getH (((j0, _) :: H1) ++ ((j0, _) :: HS)) j0 = _
      rw [List.cons_append, getH_cons, if_pos rfl]) (by rw [List.cons_append, getH_cons, if_pos rfl]) (fun i hi => by
      show _ = getH (((j0, _) :: H1) ++ ((j0, _) :: HS)) i
      rw [List.cons_append, List.cons_append, getH_cons, getH_cons, if_neg (Ne.symm hi), if_neg (Ne.symm hi), getH_append', getH_append', getH_cons, if_neg (Ne.symm hi)]) (fun cs' hcs' _ => by
      simp only [Rel] at hcs' ⊢
      exact hup _ B' cs' hB hle hcs')
  exact hsw.1
end
end Go.Fy
/- Plain Lean: records and images, as functions of numbers and lists of bytes (my own text; no program in sight). -/
set_option linter.unusedSimpArgs false
namespace Go.Fy
/-- An error's number, and its place, if it tells one. -/
structure Er where
  code : Nat
  place : Option Nat
  deriving DecidableEq
def Er.d (e : Er) : ErrD := if e.code = 0 then .nil else match e.place with | none => .code e.code | some p => .at (p : Int) (.code e.code)
def Er.p (e : Er) : Int := match e.place with | none => -1 | some p => p
def Er.ok (e : Er) : Prop := e.code ≤ 20 ∧ (e.code = 0 → e.place = none)
def erAV (e : Er) : AV := .agg [.int .i64 (e.code : Nat), .int .i64 e.p]
/-- A record: a tag, a body (nil or not). -/
structure Rc where
  tag : Int
  nn : Bool
  body : List UInt8
def rcAV (r : Rc) : AV := .agg [.int .i64 r.tag, .sl 1 r.nn r.body.length (bAt r.body)]
def rcAt (l : List Rc) (j : Nat) : AV := rcAV (l.getD j ⟨0, true, []⟩)
structure Hd where
  kind : Nat
  length : Nat
  id : Nat
  plan : Nat
  sum : BitVec 32
def hdAV (h : Hd) : AV := .agg [.int .i64 (h.kind : Int), .int .i64 (h.length : Int), .int .i64 (h.id : Int), .int .u32 (h.plan : Int), u32V h.sum]
namespace Sp
def e0 : Er := ⟨0, none⟩
def ec (c : Nat) : Er := ⟨c, none⟩
def ea (c p : Nat) : Er := ⟨c, some p⟩
def hd0 : Hd := ⟨0, 0, 0, 0, 0⟩
/-- "FERY". -/
def fery : List UInt8 := [70, 69, 82, 89]
def look (b : List UInt8) : Hd × Er :=
  if 4096 < b.length then (hd0, ec 11) else if b.length < 24 then (hd0, ec 1) else if (opened b).2 ≠ 0 then (hd0, ec 6) else if b.take 4 ≠ fery then (hd0, ea 3 0)
  else if fld b 4 2 ≠ 1 then (hd0, ea 7 4) else if fld b 6 2 ≠ 1 ∧ fld b 6 2 ≠ 2 then (hd0, ea 7 6) else if fld b 8 4 ≠ b.length then (hd0, ea 5 8)
  else (⟨fld b 6 2, fld b 8 4, fld b 16 4, fld b 12 4, crcSum (opened b).1⟩, e0)
/-- The records of bytes, from a place on. -/
def recs (b : List UInt8) (a : Nat) (acc : List Rc) : List Rc × Er :=
  if b.length ≤ a then (acc, e0) else if b.length - a < 3 then ([], ea 1 a) else if fld b a 1 = 0 then ([], ea 3 a) else if b.length - a - 3 < fld b (a + 1) 2 then ([], ea 5 (a + 1))
  else recs b (a + 3 + fld b (a + 1) 2) (acc ++ [⟨(fld b a 1 : Nat), false, (b.drop (a + 3)).take (fld b (a + 1) 2)⟩])
termination_by b.length - a
def split (b : List UInt8) : List Rc × Er := recs b 0 []
/-- The grammar: rows (a tag, whether just once), records, how many are passed. -/
def gram : List (Int × Bool) → List Int → Nat → Er
  | [], [], _ => e0
  | [], _ :: _, i => ea 3 i
  | (_, true) :: _, [], i => ea 1 i
  | (t, true) :: s, x :: l, i => if x = t then gram s l (i + 1) else ea 3 i
  | (t, false) :: s, x :: l, i => if x = t then gram ((t, false) :: s) l (i + 1) else gram s (x :: l) i
  | (_, false) :: s, [], i => gram s [] i
termination_by s l => s.length + l.length
def rows (kind : Int) : List (Int × Bool) :=
  [(1, true)] ++ (if kind = 2 then [(2, true)] else []) ++ [(3, false), (4, true), (5, true), (6, true), (7, true), (8, false)] ++ (if kind = 2 then [(10, false)] else [(9, false)])
def grammar (kind : Int) (l : List Rc) : Er := if kind ≠ 1 ∧ kind ≠ 2 then ec 7 else gram (rows kind) (l.map (·.tag)) 0
def shift (e : Er) (n : Nat) : Er := ⟨e.code, e.place.map (· + n)⟩
def records (b : List UInt8) : List Rc × Er :=
  if (look b).2.code ≠ 0 then ([], (look b).2) else
  let s := split ((b.drop 20).take (b.length - 24))
  if s.2.code ≠ 0 then ([], shift s.2 20) else
  if (grammar (look b).1.kind s.1).code ≠ 0 then ([], grammar (look b).1.kind s.1) else (s.1, e0)
def size (l : List Rc) : Nat := l.foldl (fun n r => n + (3 + r.body.length)) 24
def recBytes (l : List Rc) : List UInt8 := (l.map fun r => be r.tag.toNat 1 ++ (be r.body.length 2 ++ r.body)).flatten
def imgBytes (kind : Int) (sum : BitVec 32) (id : Int) (l : List Rc) : List UInt8 :=
  fery ++ (be 1 2 ++ (be kind.toNat 2 ++ (be (size l) 4 ++ (be sum.toNat 4 ++ (be id.toNat 4 ++ recBytes l)))))
def pack (kind : Int) (sum : BitVec 32) (id : Int) (l : List Rc) : List UInt8 × Er :=
  if (grammar kind l).code ≠ 0 then ([], grammar kind l) else if id < 0 ∨ 4294967295 < id then ([], ec 4) else if ∃ r ∈ l, 65535 < r.body.length then ([], ec 5)
  else if 4096 < size l then ([], ec 11) else (crcSeal (imgBytes kind sum id l), e0)
theorem gram_ok : ∀ (s : List (Int × Bool)) (l : List Int) (i : Nat), (gram s l i).code ≤ 20 ∧ ((gram s l i).code = 0 → (gram s l i).place = none) := by
  intro s l i
  fun_induction gram s l i <;> simp_all [e0, ea]
theorem grammar_ok (k : Int) (l : List Rc) : (grammar k l).ok := by
  unfold grammar Er.ok
  split
  · simp [ec]
  · exact gram_ok _ _ _
theorem pack_ok (k : Int) (s : BitVec 32) (id : Int) (l : List Rc) : (pack k s id l).2.ok := by
  unfold pack
  repeat' split
  all_goals first
    | exact grammar_ok _ _
    | simp [Er.ok, ec, e0]
end Sp
end Go.Fy
/- Errors with a place: made, their numbers and places (walks over this dump). -/
namespace Go.Proofs.YtpmgdmbcdohgcaaDoor
attribute [local irreducible] Tryd.prog
open Go.Fy
set_option linter.unusedSimpArgs false
set_option linter.unusedVariables false
section
variable {ea : Nat → Addr} {cds : List Nat} {gl : Nat → Option AV}
theorem c78 (p : Int) (e : ErrD) : APure (V ea cds gl) 78 [.int .i64 p, .err e] false (.err (.at p e)) := by
 refine acalls_of_body (N := 10) Tryd.func78 rfl rfl (Nat.le_of_ble_eq_true rfl) fun C hV hN hM hO => ?_
 obtain ⟨_, _, w0, G0, σ0, _, own0⟩ := C; dsimp only at hV hN hM hO; subst hV; subst hN; subst hM
 refine awp_seq (awp_region rfl ?_)
 refine sP (opp_as (v := .err _) rfl rfl) rfl rfl ?_
 refine awp_seq (awp_region rfl ?_)
 refine sP (opp_mv (v := .int _ _) rfl rfl) rfl rfl ?_
 refine sP (opp_mv (v := .err _) rfl rfl) rfl rfl ?_
 refine sP (opp_build rfl z113 bld113 rfl [.int _ _, .err _] rfl) rfl rfl ?_
 refine sR (opr_box (y := .agg _) (n := 8) rfl rfl rfl) rfl rfl rfl ?_
 refine al_sh [(8, .fptr (.agg [.int .i64 p, .err e]))] [(8, none)] hO rfl (And.intro (Shut.ptr rfl rfl (Shut.refl sfr) rfl (fun h => by cases h)) True.intro) True.intro ?_
 refine sP (opp_mkAt rfl rfl (by kernel_rfl) rfl) rfl rfl ?_
 refine sP (opp_as (v := .err _) rfl rfl) rfl rfl ?_
 refine awp_ret ?_
 repeat (first | refine athen_ret ?_ | refine ain_ret ?_)
 refine apost_ret (aend1 (r0 := .err _) (.tmp .nil) (.noN rfl rfl) ⟨Wk.v ?_, rfl, rfl⟩)
 exact .refl
theorem c24 (p : Int) (e : ErrD) : APure (V ea cds gl) 24 [.int .i64 p, .err e] false (.err (.at p e)) := by
 refine acalls_of_body (N := 10) Tryd.func24 rfl rfl (Nat.le_of_ble_eq_true rfl) fun C hV hN hM hO => ?_
 obtain ⟨_, _, w0, G0, σ0, _, own0⟩ := C; dsimp only at hV hN hM hO; subst hV; subst hN; subst hM
 refine awp_seq (awp_region rfl ?_)
 refine sP (opp_as (v := .err _) rfl rfl) rfl rfl ?_
 refine awp_seq (awp_region rfl ?_)
 refine sP (opp_mv (v := .int _ _) rfl rfl) rfl rfl ?_
 refine sP (opp_mv (v := .err _) rfl rfl) rfl rfl ?_
 refine sP (opp_build rfl z113 bld113 rfl [.int _ _, .err _] rfl) rfl rfl ?_
 refine sR (opr_box (y := .agg _) (n := 8) rfl rfl rfl) rfl rfl rfl ?_
 refine al_sh [(8, .fptr (.agg [.int .i64 p, .err e]))] [(8, none)] hO rfl (And.intro (Shut.ptr rfl rfl (Shut.refl sfr) rfl (fun h => by cases h)) True.intro) True.intro ?_
 refine sP (opp_mkAt rfl rfl (by kernel_rfl) rfl) rfl rfl ?_
 refine sP (opp_as (v := .err _) rfl rfl) rfl rfl ?_
 refine awp_ret ?_
 repeat (first | refine athen_ret ?_ | refine ain_ret ?_)
 refine apost_ret (aend1 (r0 := .err _) (.tmp .nil) (.noN rfl rfl) ⟨Wk.v ?_, rfl, rfl⟩)
 exact .refl
theorem ca28 (p : Int) (c : Nat) (h1 : 11 ≤ c) (h20 : c ≤ 20) (hS : Sents cds gl) : APure (V ea cds gl) 28 [.err (.at p (.code c))] false (.int .i64 c) := by
 have hS0 := hS
 obtain ⟨hG2, hG3, hG4, hG1, hG0, hG5, hG6, hG7, hG8, hG9, hG10, hG11, hG12, hG13, hG14, hG15, hG16, hG17, hG18, hG19, hT, hall⟩ := hS
 refine acalls_of_body (N := 43) Tryd.func28 rfl rfl (Nat.le_of_ble_eq_true rfl) fun C hV hN hM hO => ?_
 obtain ⟨_, _, w0, G0, σ0, _, own0⟩ := C; dsimp only at hV hN hM hO; subst hV; subst hN; subst hM
 refine awp_seq (awp_region rfl ?_)
 refine sP (opp_as (v := .int _ _) rfl rfl) rfl rfl ?_
 refine awp_seq (awp_block (awp_seq (awp_region rfl ?_)))
 refine sP (opp_mv (v := .err _) rfl rfl) rfl rfl ?_
 refine sP (opp_loadF rfl (ev_glob hG10) ty35) rfl rfl ?_
 refine sR (opr_call rfl rfl ent27 rfl (ca27 p c 11 (hall _ (by omega) h20) (hall _ (by omega) (by omega))) (AViews.refl _ rfl)) rfl rfl rfl ?_ -- d=6 t=4 a=4,5
 refine sP (opp_as (v := .bool _) rfl rfl) rfl rfl ?_
 refine awp_cond _ rfl (fun ht3 => ?_) (fun ht3 => ?_)
 ·(try simp only [cmpI, errD_nil, qa, qb, qc, qd] at ht3)
  refine awp_seq (awp_region rfl ?_)
  refine sP (opp_as (v := .int _ _) rfl rfl) rfl rfl ?_
  refine awp_ret ?_
  repeat (first | refine athen_ret ?_ | refine ain_ret ?_)
  refine apost_ret (aend1 (r0 := .int _ _) (.tmp .nil) (.noN rfl rfl) ⟨Wk.v ?_, rfl, rfl⟩)
  have hk : c = 11 := by omega
  subst hk; exact .refl
 ·(try simp only [cmpI, errD_nil, qa, qb, qc, qd] at ht3)
  refine awp_seq (awp_region rfl ?_)
  refine sP (opp_mv (v := .err _) rfl rfl) rfl rfl ?_
  refine sP (opp_loadF rfl (ev_glob hG11) ty35) rfl rfl ?_
  refine sR (opr_call rfl rfl ent27 rfl (ca27 p c 12 (hall _ (by omega) h20) (hall _ (by omega) (by omega))) (AViews.refl _ rfl)) rfl rfl rfl ?_ -- d=10 t=4 a=8,9
  refine sP (opp_as (v := .bool _) rfl rfl) rfl rfl ?_
  refine awp_cond _ rfl (fun ht7 => ?_) (fun ht7 => ?_)
  ·(try simp only [cmpI, errD_nil, qa, qb, qc, qd] at ht7)
   refine awp_seq (awp_region rfl ?_)
   refine sP (opp_as (v := .int _ _) rfl rfl) rfl rfl ?_
   refine awp_ret ?_
   repeat (first | refine athen_ret ?_ | refine ain_ret ?_)
   refine apost_ret (aend1 (r0 := .int _ _) (.tmp .nil) (.noN rfl rfl) ⟨Wk.v ?_, rfl, rfl⟩)
   have hk : c = 12 := by omega
   subst hk; exact .refl
  ·(try simp only [cmpI, errD_nil, qa, qb, qc, qd] at ht7)
   refine awp_seq (awp_region rfl ?_)
   refine sP (opp_mv (v := .err _) rfl rfl) rfl rfl ?_
   refine sP (opp_loadF rfl (ev_glob hG12) ty35) rfl rfl ?_
   refine sR (opr_call rfl rfl ent27 rfl (ca27 p c 13 (hall _ (by omega) h20) (hall _ (by omega) (by omega))) (AViews.refl _ rfl)) rfl rfl rfl ?_ -- d=14 t=4 a=12,13
   refine sP (opp_as (v := .bool _) rfl rfl) rfl rfl ?_
   refine awp_cond _ rfl (fun ht11 => ?_) (fun ht11 => ?_)
   ·(try simp only [cmpI, errD_nil, qa, qb, qc, qd] at ht11)
    refine awp_seq (awp_region rfl ?_)
    refine sP (opp_as (v := .int _ _) rfl rfl) rfl rfl ?_
    refine awp_ret ?_
    repeat (first | refine athen_ret ?_ | refine ain_ret ?_)
    refine apost_ret (aend1 (r0 := .int _ _) (.tmp .nil) (.noN rfl rfl) ⟨Wk.v ?_, rfl, rfl⟩)
    have hk : c = 13 := by omega
    subst hk; exact .refl
   ·(try simp only [cmpI, errD_nil, qa, qb, qc, qd] at ht11)
    refine awp_seq (awp_region rfl ?_)
    refine sP (opp_mv (v := .err _) rfl rfl) rfl rfl ?_
    refine sP (opp_loadF rfl (ev_glob hG13) ty35) rfl rfl ?_
    refine sR (opr_call rfl rfl ent27 rfl (ca27 p c 14 (hall _ (by omega) h20) (hall _ (by omega) (by omega))) (AViews.refl _ rfl)) rfl rfl rfl ?_ -- d=18 t=4 a=16,17
    refine sP (opp_as (v := .bool _) rfl rfl) rfl rfl ?_
    refine awp_cond _ rfl (fun ht15 => ?_) (fun ht15 => ?_)
    ·(try simp only [cmpI, errD_nil, qa, qb, qc, qd] at ht15)
     refine awp_seq (awp_region rfl ?_)
     refine sP (opp_as (v := .int _ _) rfl rfl) rfl rfl ?_
     refine awp_ret ?_
     repeat (first | refine athen_ret ?_ | refine ain_ret ?_)
     refine apost_ret (aend1 (r0 := .int _ _) (.tmp .nil) (.noN rfl rfl) ⟨Wk.v ?_, rfl, rfl⟩)
     have hk : c = 14 := by omega
     subst hk; exact .refl
    ·(try simp only [cmpI, errD_nil, qa, qb, qc, qd] at ht15)
     refine awp_seq (awp_region rfl ?_)
     refine sP (opp_mv (v := .err _) rfl rfl) rfl rfl ?_
     refine sP (opp_loadF rfl (ev_glob hG14) ty35) rfl rfl ?_
     refine sR (opr_call rfl rfl ent27 rfl (ca27 p c 15 (hall _ (by omega) h20) (hall _ (by omega) (by omega))) (AViews.refl _ rfl)) rfl rfl rfl ?_ -- d=22 t=4 a=20,21
     refine sP (opp_as (v := .bool _) rfl rfl) rfl rfl ?_
     refine awp_cond _ rfl (fun ht19 => ?_) (fun ht19 => ?_)
     ·(try simp only [cmpI, errD_nil, qa, qb, qc, qd] at ht19)
      refine awp_seq (awp_region rfl ?_)
      refine sP (opp_as (v := .int _ _) rfl rfl) rfl rfl ?_
      refine awp_ret ?_
      repeat (first | refine athen_ret ?_ | refine ain_ret ?_)
      refine apost_ret (aend1 (r0 := .int _ _) (.tmp .nil) (.noN rfl rfl) ⟨Wk.v ?_, rfl, rfl⟩)
      have hk : c = 15 := by omega
      subst hk; exact .refl
     ·(try simp only [cmpI, errD_nil, qa, qb, qc, qd] at ht19)
      refine awp_seq (awp_region rfl ?_)
      refine sP (opp_mv (v := .err _) rfl rfl) rfl rfl ?_
      refine sP (opp_loadF rfl (ev_glob hG15) ty35) rfl rfl ?_
      refine sR (opr_call rfl rfl ent27 rfl (ca27 p c 16 (hall _ (by omega) h20) (hall _ (by omega) (by omega))) (AViews.refl _ rfl)) rfl rfl rfl ?_ -- d=26 t=4 a=24,25
      refine sP (opp_as (v := .bool _) rfl rfl) rfl rfl ?_
      refine awp_cond _ rfl (fun ht23 => ?_) (fun ht23 => ?_)
      ·(try simp only [cmpI, errD_nil, qa, qb, qc, qd] at ht23)
       refine awp_seq (awp_region rfl ?_)
       refine sP (opp_as (v := .int _ _) rfl rfl) rfl rfl ?_
       refine awp_ret ?_
       repeat (first | refine athen_ret ?_ | refine ain_ret ?_)
       refine apost_ret (aend1 (r0 := .int _ _) (.tmp .nil) (.noN rfl rfl) ⟨Wk.v ?_, rfl, rfl⟩)
       have hk : c = 16 := by omega
       subst hk; exact .refl
      ·(try simp only [cmpI, errD_nil, qa, qb, qc, qd] at ht23)
       refine awp_seq (awp_region rfl ?_)
       refine sP (opp_mv (v := .err _) rfl rfl) rfl rfl ?_
       refine sP (opp_loadF rfl (ev_glob hG16) ty35) rfl rfl ?_
       refine sR (opr_call rfl rfl ent27 rfl (ca27 p c 17 (hall _ (by omega) h20) (hall _ (by omega) (by omega))) (AViews.refl _ rfl)) rfl rfl rfl ?_ -- d=30 t=4 a=28,29
       refine sP (opp_as (v := .bool _) rfl rfl) rfl rfl ?_
       refine awp_cond _ rfl (fun ht27 => ?_) (fun ht27 => ?_)
       ·(try simp only [cmpI, errD_nil, qa, qb, qc, qd] at ht27)
        refine awp_seq (awp_region rfl ?_)
        refine sP (opp_as (v := .int _ _) rfl rfl) rfl rfl ?_
        refine awp_ret ?_
        repeat (first | refine athen_ret ?_ | refine ain_ret ?_)
        refine apost_ret (aend1 (r0 := .int _ _) (.tmp .nil) (.noN rfl rfl) ⟨Wk.v ?_, rfl, rfl⟩)
        have hk : c = 17 := by omega
        subst hk; exact .refl
       ·(try simp only [cmpI, errD_nil, qa, qb, qc, qd] at ht27)
        refine awp_seq (awp_region rfl ?_)
        refine sP (opp_mv (v := .err _) rfl rfl) rfl rfl ?_
        refine sP (opp_loadF rfl (ev_glob hG17) ty35) rfl rfl ?_
        refine sR (opr_call rfl rfl ent27 rfl (ca27 p c 18 (hall _ (by omega) h20) (hall _ (by omega) (by omega))) (AViews.refl _ rfl)) rfl rfl rfl ?_ -- d=34 t=4 a=32,33
        refine sP (opp_as (v := .bool _) rfl rfl) rfl rfl ?_
        refine awp_cond _ rfl (fun ht31 => ?_) (fun ht31 => ?_)
        ·(try simp only [cmpI, errD_nil, qa, qb, qc, qd] at ht31)
         refine awp_seq (awp_region rfl ?_)
         refine sP (opp_as (v := .int _ _) rfl rfl) rfl rfl ?_
         refine awp_ret ?_
         repeat (first | refine athen_ret ?_ | refine ain_ret ?_)
         refine apost_ret (aend1 (r0 := .int _ _) (.tmp .nil) (.noN rfl rfl) ⟨Wk.v ?_, rfl, rfl⟩)
         have hk : c = 18 := by omega
         subst hk; exact .refl
        ·(try simp only [cmpI, errD_nil, qa, qb, qc, qd] at ht31)
         refine awp_seq (awp_region rfl ?_)
         refine sP (opp_mv (v := .err _) rfl rfl) rfl rfl ?_
         refine sP (opp_loadF rfl (ev_glob hG18) ty35) rfl rfl ?_
         refine sR (opr_call rfl rfl ent27 rfl (ca27 p c 19 (hall _ (by omega) h20) (hall _ (by omega) (by omega))) (AViews.refl _ rfl)) rfl rfl rfl ?_ -- d=38 t=4 a=36,37
         refine sP (opp_as (v := .bool _) rfl rfl) rfl rfl ?_
         refine awp_cond _ rfl (fun ht35 => ?_) (fun ht35 => ?_)
         ·(try simp only [cmpI, errD_nil, qa, qb, qc, qd] at ht35)
          refine awp_seq (awp_region rfl ?_)
          refine sP (opp_as (v := .int _ _) rfl rfl) rfl rfl ?_
          refine awp_ret ?_
          repeat (first | refine athen_ret ?_ | refine ain_ret ?_)
          refine apost_ret (aend1 (r0 := .int _ _) (.tmp .nil) (.noN rfl rfl) ⟨Wk.v ?_, rfl, rfl⟩)
          have hk : c = 19 := by omega
          subst hk; exact .refl
         ·(try simp only [cmpI, errD_nil, qa, qb, qc, qd] at ht35)
          refine awp_seq (awp_region rfl ?_)
          refine sP (opp_mv (v := .err _) rfl rfl) rfl rfl ?_
          refine sP (opp_loadF rfl (ev_glob hG19) ty35) rfl rfl ?_
          refine sR (opr_call rfl rfl ent27 rfl (ca27 p c 20 (hall _ (by omega) h20) (hall _ (by omega) (by omega))) (AViews.refl _ rfl)) rfl rfl rfl ?_ -- d=42 t=4 a=40,41
          refine sP (opp_as (v := .bool _) rfl rfl) rfl rfl ?_
          refine awp_cond _ rfl (fun ht39 => ?_) (fun ht39 => ?_)
          ·(try simp only [cmpI, errD_nil, qa, qb, qc, qd] at ht39)
           refine awp_seq (awp_region rfl ?_)
           refine sP (opp_as (v := .int _ _) rfl rfl) rfl rfl ?_
           refine awp_ret ?_
           repeat (first | refine athen_ret ?_ | refine ain_ret ?_)
           refine apost_ret (aend1 (r0 := .int _ _) (.tmp .nil) (.noN rfl rfl) ⟨Wk.v ?_, rfl, rfl⟩)
           have hk : c = 20 := by omega
           subst hk; exact .refl
          ·(try simp only [cmpI, errD_nil, qa, qb, qc, qd] at ht39)
           refine awp_skip (awp_seq (awp_region rfl ?_))
           refine sP (opp_as (v := .int _ _) rfl rfl) rfl rfl ?_
           refine awp_ret ?_
           repeat (first | refine athen_ret ?_ | refine ain_ret ?_)
           refine apost_ret (aend1 (r0 := .int _ _) (.tmp .nil) (.noN rfl rfl) ⟨Wk.v ?_, rfl, rfl⟩)
           exfalso; omega
theorem ca9 (p : Int) (c : Nat) (h1 : 1 ≤ c) (h20 : c ≤ 20) (hS : Sents cds gl) : APure (V ea cds gl) 9 [.err (.at p (.code c))] false (.int .i64 c) := by
 have hS0 := hS
 obtain ⟨hG2, hG3, hG4, hG1, hG0, hG5, hG6, hG7, hG8, hG9, hG10, hG11, hG12, hG13, hG14, hG15, hG16, hG17, hG18, hG19, hT, hall⟩ := hS
 refine acalls_of_body (N := 48) Tryd.func9 rfl rfl (Nat.le_of_ble_eq_true rfl) fun C hV hN hM hO => ?_
 obtain ⟨_, _, w0, G0, σ0, _, own0⟩ := C; dsimp only at hV hN hM hO; subst hV; subst hN; subst hM
 refine awp_seq (awp_region rfl ?_)
 refine sP (opp_as (v := .int _ _) rfl rfl) rfl rfl ?_
 refine awp_seq (awp_block (awp_seq (awp_region rfl ?_)))
 refine sP (opp_mv (v := .err _) rfl rfl) rfl rfl ?_
 refine sP (opp_errNil rfl rfl rfl un35 (.inl ⟨rfl, rfl⟩)) rfl rfl ?_
 refine sP (opp_as (v := .bool _) rfl rfl) rfl rfl ?_
 refine awp_cond _ rfl (fun ht3 => ?_) (fun ht3 => ?_)
 ·(try simp only [cmpI, errD_nil, qa, qb, qc, qd] at ht3)
  cases ht3
 ·(try simp only [cmpI, errD_nil, qa, qb, qc, qd] at ht3)
  refine awp_seq (awp_region rfl ?_)
  refine sP (opp_mv (v := .err _) rfl rfl) rfl rfl ?_
  refine sP (opp_loadF rfl (ev_glob hG2) ty35) rfl rfl ?_
  refine sR (opr_call rfl rfl ent27 rfl (ca27 p c 1 (hall _ (by omega) h20) (hall _ (by omega) (by omega))) (AViews.refl _ rfl)) rfl rfl rfl ?_ -- d=9 t=4 a=7,8
  refine sP (opp_as (v := .bool _) rfl rfl) rfl rfl ?_
  refine awp_cond _ rfl (fun ht6 => ?_) (fun ht6 => ?_)
  ·(try simp only [cmpI, errD_nil, qa, qb, qc, qd] at ht6)
   refine awp_seq (awp_region rfl ?_)
   refine sP (opp_as (v := .int _ _) rfl rfl) rfl rfl ?_
   refine awp_ret ?_
   repeat (first | refine athen_ret ?_ | refine ain_ret ?_)
   refine apost_ret (aend1 (r0 := .int _ _) (.tmp .nil) (.noN rfl rfl) ⟨Wk.v ?_, rfl, rfl⟩)
   have hk : c = 1 := by omega
   subst hk; exact .refl
  ·(try simp only [cmpI, errD_nil, qa, qb, qc, qd] at ht6)
   refine awp_seq (awp_region rfl ?_)
   refine sP (opp_mv (v := .err _) rfl rfl) rfl rfl ?_
   refine sP (opp_loadF rfl (ev_glob hG3) ty35) rfl rfl ?_
   refine sR (opr_call rfl rfl ent27 rfl (ca27 p c 2 (hall _ (by omega) h20) (hall _ (by omega) (by omega))) (AViews.refl _ rfl)) rfl rfl rfl ?_ -- d=13 t=4 a=11,12
   refine sP (opp_as (v := .bool _) rfl rfl) rfl rfl ?_
   refine awp_cond _ rfl (fun ht10 => ?_) (fun ht10 => ?_)
   ·(try simp only [cmpI, errD_nil, qa, qb, qc, qd] at ht10)
    refine awp_seq (awp_region rfl ?_)
    refine sP (opp_as (v := .int _ _) rfl rfl) rfl rfl ?_
    refine awp_ret ?_
    repeat (first | refine athen_ret ?_ | refine ain_ret ?_)
    refine apost_ret (aend1 (r0 := .int _ _) (.tmp .nil) (.noN rfl rfl) ⟨Wk.v ?_, rfl, rfl⟩)
    have hk : c = 2 := by omega
    subst hk; exact .refl
   ·(try simp only [cmpI, errD_nil, qa, qb, qc, qd] at ht10)
    refine awp_seq (awp_region rfl ?_)
    refine sP (opp_mv (v := .err _) rfl rfl) rfl rfl ?_
    refine sP (opp_loadF rfl (ev_glob hG4) ty35) rfl rfl ?_
    refine sR (opr_call rfl rfl ent27 rfl (ca27 p c 3 (hall _ (by omega) h20) (hall _ (by omega) (by omega))) (AViews.refl _ rfl)) rfl rfl rfl ?_ -- d=17 t=4 a=15,16
    refine sP (opp_as (v := .bool _) rfl rfl) rfl rfl ?_
    refine awp_cond _ rfl (fun ht14 => ?_) (fun ht14 => ?_)
    ·(try simp only [cmpI, errD_nil, qa, qb, qc, qd] at ht14)
     refine awp_seq (awp_region rfl ?_)
     refine sP (opp_as (v := .int _ _) rfl rfl) rfl rfl ?_
     refine awp_ret ?_
     repeat (first | refine athen_ret ?_ | refine ain_ret ?_)
     refine apost_ret (aend1 (r0 := .int _ _) (.tmp .nil) (.noN rfl rfl) ⟨Wk.v ?_, rfl, rfl⟩)
     have hk : c = 3 := by omega
     subst hk; exact .refl
    ·(try simp only [cmpI, errD_nil, qa, qb, qc, qd] at ht14)
     refine awp_seq (awp_region rfl ?_)
     refine sP (opp_mv (v := .err _) rfl rfl) rfl rfl ?_
     refine sP (opp_loadF rfl (ev_glob hG1) ty35) rfl rfl ?_
     refine sR (opr_call rfl rfl ent27 rfl (ca27 p c 4 (hall _ (by omega) h20) (hall _ (by omega) (by omega))) (AViews.refl _ rfl)) rfl rfl rfl ?_ -- d=21 t=4 a=19,20
     refine sP (opp_as (v := .bool _) rfl rfl) rfl rfl ?_
     refine awp_cond _ rfl (fun ht18 => ?_) (fun ht18 => ?_)
     ·(try simp only [cmpI, errD_nil, qa, qb, qc, qd] at ht18)
      refine awp_seq (awp_region rfl ?_)
      refine sP (opp_as (v := .int _ _) rfl rfl) rfl rfl ?_
      refine awp_ret ?_
      repeat (first | refine athen_ret ?_ | refine ain_ret ?_)
      refine apost_ret (aend1 (r0 := .int _ _) (.tmp .nil) (.noN rfl rfl) ⟨Wk.v ?_, rfl, rfl⟩)
      have hk : c = 4 := by omega
      subst hk; exact .refl
     ·(try simp only [cmpI, errD_nil, qa, qb, qc, qd] at ht18)
      refine awp_seq (awp_region rfl ?_)
      refine sP (opp_mv (v := .err _) rfl rfl) rfl rfl ?_
      refine sP (opp_loadF rfl (ev_glob hG0) ty35) rfl rfl ?_
      refine sR (opr_call rfl rfl ent27 rfl (ca27 p c 5 (hall _ (by omega) h20) (hall _ (by omega) (by omega))) (AViews.refl _ rfl)) rfl rfl rfl ?_ -- d=25 t=4 a=23,24
      refine sP (opp_as (v := .bool _) rfl rfl) rfl rfl ?_
      refine awp_cond _ rfl (fun ht22 => ?_) (fun ht22 => ?_)
      ·(try simp only [cmpI, errD_nil, qa, qb, qc, qd] at ht22)
       refine awp_seq (awp_region rfl ?_)
       refine sP (opp_as (v := .int _ _) rfl rfl) rfl rfl ?_
       refine awp_ret ?_
       repeat (first | refine athen_ret ?_ | refine ain_ret ?_)
       refine apost_ret (aend1 (r0 := .int _ _) (.tmp .nil) (.noN rfl rfl) ⟨Wk.v ?_, rfl, rfl⟩)
       have hk : c = 5 := by omega
       subst hk; exact .refl
      ·(try simp only [cmpI, errD_nil, qa, qb, qc, qd] at ht22)
       refine awp_seq (awp_region rfl ?_)
       refine sP (opp_mv (v := .err _) rfl rfl) rfl rfl ?_
       refine sP (opp_loadF rfl (ev_glob hG5) ty35) rfl rfl ?_
       refine sR (opr_call rfl rfl ent27 rfl (ca27 p c 6 (hall _ (by omega) h20) (hall _ (by omega) (by omega))) (AViews.refl _ rfl)) rfl rfl rfl ?_ -- d=29 t=4 a=27,28
       refine sP (opp_as (v := .bool _) rfl rfl) rfl rfl ?_
       refine awp_cond _ rfl (fun ht26 => ?_) (fun ht26 => ?_)
       ·(try simp only [cmpI, errD_nil, qa, qb, qc, qd] at ht26)
        refine awp_seq (awp_region rfl ?_)
        refine sP (opp_as (v := .int _ _) rfl rfl) rfl rfl ?_
        refine awp_ret ?_
        repeat (first | refine athen_ret ?_ | refine ain_ret ?_)
        refine apost_ret (aend1 (r0 := .int _ _) (.tmp .nil) (.noN rfl rfl) ⟨Wk.v ?_, rfl, rfl⟩)
        have hk : c = 6 := by omega
        subst hk; exact .refl
       ·(try simp only [cmpI, errD_nil, qa, qb, qc, qd] at ht26)
        refine awp_seq (awp_region rfl ?_)
        refine sP (opp_mv (v := .err _) rfl rfl) rfl rfl ?_
        refine sP (opp_loadF rfl (ev_glob hG6) ty35) rfl rfl ?_
        refine sR (opr_call rfl rfl ent27 rfl (ca27 p c 7 (hall _ (by omega) h20) (hall _ (by omega) (by omega))) (AViews.refl _ rfl)) rfl rfl rfl ?_ -- d=33 t=4 a=31,32
        refine sP (opp_as (v := .bool _) rfl rfl) rfl rfl ?_
        refine awp_cond _ rfl (fun ht30 => ?_) (fun ht30 => ?_)
        ·(try simp only [cmpI, errD_nil, qa, qb, qc, qd] at ht30)
         refine awp_seq (awp_region rfl ?_)
         refine sP (opp_as (v := .int _ _) rfl rfl) rfl rfl ?_
         refine awp_ret ?_
         repeat (first | refine athen_ret ?_ | refine ain_ret ?_)
         refine apost_ret (aend1 (r0 := .int _ _) (.tmp .nil) (.noN rfl rfl) ⟨Wk.v ?_, rfl, rfl⟩)
         have hk : c = 7 := by omega
         subst hk; exact .refl
        ·(try simp only [cmpI, errD_nil, qa, qb, qc, qd] at ht30)
         refine awp_seq (awp_region rfl ?_)
         refine sP (opp_mv (v := .err _) rfl rfl) rfl rfl ?_
         refine sP (opp_loadF rfl (ev_glob hG7) ty35) rfl rfl ?_
         refine sR (opr_call rfl rfl ent27 rfl (ca27 p c 8 (hall _ (by omega) h20) (hall _ (by omega) (by omega))) (AViews.refl _ rfl)) rfl rfl rfl ?_ -- d=37 t=4 a=35,36
         refine sP (opp_as (v := .bool _) rfl rfl) rfl rfl ?_
         refine awp_cond _ rfl (fun ht34 => ?_) (fun ht34 => ?_)
         ·(try simp only [cmpI, errD_nil, qa, qb, qc, qd] at ht34)
          refine awp_seq (awp_region rfl ?_)
          refine sP (opp_as (v := .int _ _) rfl rfl) rfl rfl ?_
          refine awp_ret ?_
          repeat (first | refine athen_ret ?_ | refine ain_ret ?_)
          refine apost_ret (aend1 (r0 := .int _ _) (.tmp .nil) (.noN rfl rfl) ⟨Wk.v ?_, rfl, rfl⟩)
          have hk : c = 8 := by omega
          subst hk; exact .refl
         ·(try simp only [cmpI, errD_nil, qa, qb, qc, qd] at ht34)
          refine awp_seq (awp_region rfl ?_)
          refine sP (opp_mv (v := .err _) rfl rfl) rfl rfl ?_
          refine sP (opp_loadF rfl (ev_glob hG8) ty35) rfl rfl ?_
          refine sR (opr_call rfl rfl ent27 rfl (ca27 p c 9 (hall _ (by omega) h20) (hall _ (by omega) (by omega))) (AViews.refl _ rfl)) rfl rfl rfl ?_ -- d=41 t=4 a=39,40
          refine sP (opp_as (v := .bool _) rfl rfl) rfl rfl ?_
          refine awp_cond _ rfl (fun ht38 => ?_) (fun ht38 => ?_)
          ·(try simp only [cmpI, errD_nil, qa, qb, qc, qd] at ht38)
           refine awp_seq (awp_region rfl ?_)
           refine sP (opp_as (v := .int _ _) rfl rfl) rfl rfl ?_
           refine awp_ret ?_
           repeat (first | refine athen_ret ?_ | refine ain_ret ?_)
           refine apost_ret (aend1 (r0 := .int _ _) (.tmp .nil) (.noN rfl rfl) ⟨Wk.v ?_, rfl, rfl⟩)
           have hk : c = 9 := by omega
           subst hk; exact .refl
          ·(try simp only [cmpI, errD_nil, qa, qb, qc, qd] at ht38)
           refine awp_seq (awp_region rfl ?_)
           refine sP (opp_mv (v := .err _) rfl rfl) rfl rfl ?_
           refine sP (opp_loadF rfl (ev_glob hG9) ty35) rfl rfl ?_
           refine sR (opr_call rfl rfl ent27 rfl (ca27 p c 10 (hall _ (by omega) h20) (hall _ (by omega) (by omega))) (AViews.refl _ rfl)) rfl rfl rfl ?_ -- d=45 t=4 a=43,44
           refine sP (opp_as (v := .bool _) rfl rfl) rfl rfl ?_
           refine awp_cond _ rfl (fun ht42 => ?_) (fun ht42 => ?_)
           ·(try simp only [cmpI, errD_nil, qa, qb, qc, qd] at ht42)
            refine awp_seq (awp_region rfl ?_)
            refine sP (opp_as (v := .int _ _) rfl rfl) rfl rfl ?_
            refine awp_ret ?_
            repeat (first | refine athen_ret ?_ | refine ain_ret ?_)
            refine apost_ret (aend1 (r0 := .int _ _) (.tmp .nil) (.noN rfl rfl) ⟨Wk.v ?_, rfl, rfl⟩)
            have hk : c = 10 := by omega
            subst hk; exact .refl
           ·(try simp only [cmpI, errD_nil, qa, qb, qc, qd] at ht42)
            refine awp_skip (awp_seq (awp_region rfl ?_))
            refine sP (opp_mv (v := .err _) rfl rfl) rfl rfl ?_
            refine sR (opr_call rfl rfl ent28 rfl (ca28 p c (by omega) h20 hS0) (AViews.refl _ rfl)) rfl rfl rfl ?_ -- d=47 t=3 a=46
            refine sP (opp_as (v := .int _ _) rfl rfl) rfl rfl ?_
            refine awp_ret ?_
            repeat (first | refine athen_ret ?_ | refine ain_ret ?_)
            refine apost_ret (aend1 (r0 := .int _ _) (.tmp .nil) (.noN rfl rfl) ⟨Wk.v ?_, rfl, rfl⟩)
            exact .refl
theorem ce9 (e : Er) (he : e.ok) (hS : Sents cds gl) : APure (V ea cds gl) 9 [.err e.d] false (.int .i64 (e.code : Nat)) := by
  obtain ⟨c, p⟩ := e
  obtain ⟨h1, h2⟩ := he
  dsimp only at h1 h2
  by_cases h0 : c = 0
  · subst h0; exact cn9 hS
  · cases p with
    | none => have e1 : (Er.mk c none).d = .code c := by simp [Er.d, h0]
              rw [e1]; exact c9 c (by omega) h1 hS
    | some q => have e1 : (Er.mk c (some q)).d = .at (q : Int) (.code c) := by simp [Er.d, h0]
                rw [e1]; exact ca9 _ c (by omega) h1 hS
theorem ce43 (e : Er) (he : e.ok) (hS : Sents cds gl) : APure (V ea cds gl) 43 [.err e.d] false (.int .i64 e.p) := by
  obtain ⟨c, p⟩ := e
  obtain ⟨h1, h2⟩ := he
  dsimp only at h1 h2
  by_cases h0 : c = 0
  · subst h0
    have hp := h2 rfl
    subst hp
    exact c43 0 h1 hS
  · cases p with
    | none => have e1 : (Er.mk c none).d = errD c := by simp [Er.d, errD, h0]
              rw [e1]; exact c43 c h1 hS
    | some q => have e1 : (Er.mk c (some q)).d = .at (q : Int) (.code c) := by simp [Er.d, h0]
                rw [e1]; exact ca43 _ c h1 hS
end
end Go.Proofs.YtpmgdmbcdohgcaaDoor
/- Plain Lean: the document's check sum, bit by bit, is the program's (my own text; no program in sight). -/
set_option linter.unusedSimpArgs false
namespace Go.Fy
namespace Sp
def crcPoly (b : Bool) : BitVec 32 := if b then 3988292384#32 else 0#32
theorem crcStep_eq (x : BitVec 32) : crcStep x = (x >>> 1) ^^^ crcPoly (x.getLsbD 0) := by
  have h : (x &&& 1#32 = 1#32) ↔ x.getLsbD 0 = true := by
    constructor
    · intro h
      have := congrArg (fun y => y.getLsbD 0) h
      simpa using this
    · intro h
      apply BitVec.eq_of_getLsbD_eq
      intro i hi
      by_cases h0 : i = 0
      · subst h0; simpa using h
      · simp [h0]
  unfold crcStep crcPoly
  by_cases h1 : x &&& 1#32 = 1#32
  · rw [if_pos h1, if_pos (h.1 h1)]
  · rw [if_neg h1, if_neg (fun h2 => h1 (h.2 h2))]; simp
theorem crcPoly_xor (a b : Bool) : crcPoly (a ^^ b) = crcPoly a ^^^ crcPoly b := by cases a <;> cases b <;> decide
theorem crcStep_xor (x y : BitVec 32) : crcStep (x ^^^ y) = crcStep x ^^^ crcStep y := by
  rw [crcStep_eq, crcStep_eq, crcStep_eq, BitVec.getLsbD_xor, crcPoly_xor, BitVec.ushiftRight_xor_distrib]
  ac_rfl
theorem crcIter_xor (k : Nat) (x y : BitVec 32) : crcIter k (x ^^^ y) = crcIter k x ^^^ crcIter k y := by
  induction k with
  | zero => rfl
  | succ k ih => rw [crcIter, crcIter, crcIter, ih, crcStep_xor]
theorem crcIter_high (y : BitVec 32) (k : Nat) (hk : k ≤ 8) : crcIter k (y <<< 8) = (y <<< 8) >>> k := by
  induction k with
  | zero => simp [crcIter]
  | succ k ih =>
    rw [crcIter, ih (by omega), crcStep_eq]
    have h0 : ((y <<< 8) >>> k).getLsbD 0 = false := by
      rw [BitVec.getLsbD_ushiftRight, BitVec.getLsbD_shiftLeft]; simp; omega
    rw [h0]
    apply BitVec.eq_of_getLsbD_eq
    intro i hi
    simp [crcPoly, BitVec.getLsbD_ushiftRight]
    rw [← Nat.add_assoc]
theorem high_back (x : BitVec 32) : ((x >>> 8) <<< 8) >>> 8 = x >>> 8 := by
  apply BitVec.eq_of_toNat_eq
  have := x.isLt
  simp [BitVec.toNat_ushiftRight, BitVec.toNat_shiftLeft, Nat.shiftRight_eq_div_pow, Nat.shiftLeft_eq]
  omega
/-- The document's way: a byte's bits, one by one. -/
def refByte (reg : BitVec 32) (c : UInt8) : BitVec 32 := crcIter 8 (reg ^^^ BitVec.ofNat 32 c.toNat)
theorem split_reg (reg : BitVec 32) (c : UInt8) : reg ^^^ BitVec.ofNat 32 c.toNat = BitVec.ofNat 32 (crcIdx reg c) ^^^ ((reg >>> 8) <<< 8) := by
  apply BitVec.eq_of_getLsbD_eq
  intro i hi
  have hc : (BitVec.ofNat 32 c.toNat).getLsbD i = (decide (i < 32) && c.toBitVec.getLsbD i) := by
    rw [BitVec.getLsbD_ofNat]; rfl
  have hx : (BitVec.ofNat 32 (crcIdx reg c)).getLsbD i = (decide (i < 32) && (reg.setWidth 8 ^^^ c.toBitVec).getLsbD i) := by
    rw [BitVec.getLsbD_ofNat]; rfl
  rw [BitVec.getLsbD_xor, BitVec.getLsbD_xor, hc, hx, BitVec.getLsbD_xor, BitVec.getLsbD_setWidth, BitVec.getLsbD_shiftLeft, BitVec.getLsbD_ushiftRight]
  by_cases h8 : i < 8
  · simp [h8, hi]
  · have : c.toBitVec.getLsbD i = false := BitVec.getLsbD_of_ge _ _ (by omega)
    simp [h8, hi, this]
    congr 1; omega
theorem refByte_eq (reg : BitVec 32) (c : UInt8) : refByte reg c = crcByte reg c := by
  unfold refByte crcByte crcTab
  rw [split_reg, crcIter_xor, crcIter_high _ 8 (Nat.le_refl _), high_back]
end Sp
theorem byte_xor (x : BitVec 32) (c : UInt8) : IntKind.u32.wrap ((BitVec.ofInt IntKind.u32.bits (x.toNat : Int) ^^^ BitVec.ofInt IntKind.u32.bits (c.toNat : Int)).toNat : Int) = ((x ^^^ BitVec.ofNat 32 c.toNat).toNat : Int) := by
  have hc := c.toNat_lt
  have e : (c.toNat : Int) = ((BitVec.ofNat 32 c.toNat).toNat : Int) := by
    rw [BitVec.toNat_ofNat, Nat.mod_eq_of_lt (by omega)]
  rw [e, bv_xor]
end Go.Fy
/- Plain Lean: one burst of at most 32 bits turned is refused (my own text; no program in sight). -/
set_option linter.unusedSimpArgs false
namespace Go.Fy
namespace Sp
def b1 (b : Bool) : BitVec 32 := if b then 1#32 else 0#32
/-- The i-th bit of bytes, the lowest of each first. -/
def bitAt (l : List UInt8) (i : Nat) : Bool := (l.getD (i / 8) 0).toBitVec.getLsbD (i % 8)
/-- The burst's bits. -/
def burst (at_ : Nat) (mask : BitVec 32) (i : Nat) : Bool := decide (at_ ≤ i ∧ i < at_ + 32) && mask.getLsbD (i - at_)
end Sp
end Go.Fy
/- Plain Lean: the lowest bit of a number of 32 bits (my own text; no program in sight). -/
set_option linter.unusedSimpArgs false
namespace Go.Fy
namespace Sp
end Sp
end Go.Fy
/- Plain Lean: bits of bytes turned (my own text; no program in sight). -/
set_option linter.unusedSimpArgs false
namespace Go.Fy
namespace Sp
/-- A byte out of eight bits. -/
def byte8 (g : Nat → Bool) (q : Nat) : BitVec 8 := (bif g (8 * q) then 1#8 else 0#8) ||| (bif g (8 * q + 1) then 2#8 else 0#8) ||| (bif g (8 * q + 2) then 4#8 else 0#8) ||| (bif g (8 * q + 3) then 8#8 else 0#8) |||
  (bif g (8 * q + 4) then 16#8 else 0#8) ||| (bif g (8 * q + 5) then 32#8 else 0#8) ||| (bif g (8 * q + 6) then 64#8 else 0#8) ||| (bif g (8 * q + 7) then 128#8 else 0#8)
/-- Bytes out of bits. -/
def rowOf (n : Nat) (g : Nat → Bool) : List UInt8 := (List.range n).map fun q => UInt8.ofBitVec (byte8 g q)
/-- The bits with a burst turned. -/
def turnB (s : List UInt8) (a : Nat) (m : BitVec 32) (i : Nat) : Bool := bitAt s i ^^ burst a m i
def turned (s : List UInt8) (a : Nat) (m : BitVec 32) : List UInt8 := rowOf s.length (turnB s a m)
end Sp
end Go.Fy
/- Plain Lean: bytes there and back; what is hurt is refused (my own text; no program in sight). -/
set_option linter.unusedSimpArgs false
namespace Go.Fy
namespace Sp
theorem fld_pre (s : List UInt8) (m k w : Nat) (h : k + w ≤ m) : fld (s.take m) k w = fld s k w := by
  unfold fld
  rw [List.drop_take, List.take_take, Nat.min_eq_left (by omega)]
theorem fld_more (s t : List UInt8) (k w : Nat) (h : k + w ≤ s.length) : fld (s ++ t) k w = fld s k w := by
  have := fld_pre (s ++ t) s.length k w h
  rw [List.take_left] at this; exact this.symm
end Sp
end Go.Fy
/- Plain Lean: what is packed is taken again (my own text; no program in sight). -/
set_option linter.unusedSimpArgs false
namespace Go.Fy
namespace Sp
theorem gram_tags : ∀ (s : List (Int × Bool)) (l : List Int) (i : Nat), (gram s l i).code = 0 → ∀ x ∈ l, ∃ b, (x, b) ∈ s := by
  intro s l i
  fun_induction gram s l i with
  | case1 => intro _ x hx; cases hx
  | case2 => intro h; simp [ea] at h
  | case3 => intro h; simp [ea] at h
  | case4 s t l i ih =>
    intro h y hy
    rcases List.mem_cons.1 hy with e | e
    · exact ⟨true, by rw [e]; simp⟩
    · obtain ⟨b, hb⟩ := ih h y e; exact ⟨b, List.mem_cons_of_mem _ hb⟩
  | case5 => intro h; simp [ea] at h
  | case6 s t l i ih =>
    intro h y hy
    rcases List.mem_cons.1 hy with e | e
    · exact ⟨false, by rw [e]; simp⟩
    · exact ih h y e
  | case7 t s x l i he ih =>
    intro h y hy
    obtain ⟨b, hb⟩ := ih h y hy; exact ⟨b, List.mem_cons_of_mem _ hb⟩
  | case8 t s i ih => intro h x hx; cases hx
theorem grammar_tags {k : Int} {l : List Rc} (h : (grammar k l).code = 0) : (k = 1 ∨ k = 2) ∧ ∀ r ∈ l, 1 ≤ r.tag ∧ r.tag ≤ 10 := by
  unfold grammar at h
  by_cases hk : k ≠ 1 ∧ k ≠ 2
  · rw [if_pos hk] at h; simp [ec] at h
  · rw [if_neg hk] at h
    refine ⟨by omega, fun r hr => ?_⟩
    obtain ⟨b, hb⟩ := gram_tags _ _ _ h r.tag (List.mem_map.2 ⟨r, hr, rfl⟩)
    unfold rows at hb
    by_cases h2 : k = 2
    · rw [if_pos h2, if_pos h2] at hb; simp at hb; omega
    · rw [if_neg h2, if_neg h2] at hb; simp at hb; omega
theorem recBytes_nil : recBytes [] = [] := rfl
theorem recBytes_cons (r : Rc) (l : List Rc) : recBytes (r :: l) = be r.tag.toNat 1 ++ (be r.body.length 2 ++ r.body) ++ recBytes l := rfl
theorem recBytes_snoc (l : List Rc) (r : Rc) : recBytes (l ++ [r]) = recBytes l ++ (be r.tag.toNat 1 ++ (be r.body.length 2 ++ r.body)) := by
  simp [recBytes]
theorem size_snoc (l : List Rc) (r : Rc) : size (l ++ [r]) = size l + (3 + r.body.length) := by simp [size, List.foldl_append]
theorem size_eq (l : List Rc) : size l = 24 + (recBytes l).length := by
  have : ∀ (l : List Rc) (n : Nat), l.foldl (fun n r => n + (3 + r.body.length)) n = n + (recBytes l).length := by
    intro l
    induction l with
    | nil => intro n; rfl
    | cons r l ih => intro n; rw [List.foldl_cons, ih, recBytes_cons]; simp [be_length]; omega
  exact this l 24
def plainR (r : Rc) : Rc := { r with nn := false }
theorem recs_all (b : List UInt8) : ∀ (l : List Rc) (p : List UInt8) (acc : List Rc), (∀ r ∈ l, 1 ≤ r.tag ∧ r.tag ≤ 255 ∧ r.body.length ≤ 65535) → b = p ++ recBytes l → recs b p.length acc = (acc ++ l.map plainR, e0)
  | [], p, acc, _, hb => by
    subst hb
    rw [recs, if_pos (by simp [recBytes_nil])]; simp
  | r :: l, p, acc, hr, hb => by
    obtain ⟨h1, h2, h3⟩ := hr r (by simp)
    have hd : b.drop p.length = be r.tag.toNat 1 ++ (be r.body.length 2 ++ r.body) ++ recBytes l := by subst hb; simp [recBytes_cons]
    have hlen : b.length = p.length + (3 + r.body.length + (recBytes l).length) := by subst hb; simp [recBytes_cons, be_length]; omega
    have f1 : fld b p.length 1 = r.tag.toNat := by
      unfold fld
      rw [hd, List.append_assoc, List.take_append_of_le_length (by simp [be_length]), List.take_of_length_le (by simp [be_length]), num_be _ _ (by omega)]
    have hd1 : b.drop (p.length + 1) = be r.body.length 2 ++ r.body ++ recBytes l := by
      rw [← List.drop_drop, hd, List.append_assoc, List.drop_append_of_le_length (by simp [be_length]), List.drop_eq_nil_of_le (by simp [be_length]), List.nil_append]
    have f2 : fld b (p.length + 1) 2 = r.body.length := by
      unfold fld
      rw [hd1, List.append_assoc, List.take_append_of_le_length (by simp [be_length]), List.take_of_length_le (by simp [be_length]), num_be _ _ (by omega)]
    have hd3 : b.drop (p.length + 3) = r.body ++ recBytes l := by
      rw [show p.length + 3 = p.length + 1 + 2 by omega, ← List.drop_drop, hd1, List.append_assoc, List.drop_append_of_le_length (by simp [be_length]), List.drop_eq_nil_of_le (by simp [be_length]), List.nil_append]
    rw [recs, if_neg (by omega), if_neg (by omega), f1, if_neg (by omega), f2, if_neg (by omega), hd3]
    have e : p.length + 3 + r.body.length = (p ++ (be r.tag.toNat 1 ++ (be r.body.length 2 ++ r.body))).length := by simp [be_length]; omega
    rw [e, recs_all b l _ _ (fun x hx => hr x (by simp [hx])) (by rw [hb, recBytes_cons]; simp)]
    have : (⟨((r.tag.toNat : Nat) : Int), false, (r.body ++ recBytes l).take r.body.length⟩ : Rc) = plainR r := by
      simp [plainR]; omega
    rw [this]; simp
theorem img_length (k : Int) (s : BitVec 32) (id : Int) (l : List Rc) : (imgBytes k s id l).length = 20 + (recBytes l).length := by
  simp [imgBytes, be_length, fery]; omega
theorem grammar_plain (k : Int) (l : List Rc) : grammar k (l.map plainR) = grammar k l := by
  simp only [grammar, List.map_map]; rfl
/-- What is packed is taken again. -/
theorem look_pack {k : Int} {s : BitVec 32} {id : Int} {l : List Rc} (h : (pack k s id l).2.code = 0) :
    (pack k s id l).1 = crcSeal (imgBytes k s id l) ∧ (crcSeal (imgBytes k s id l)).length = size l ∧ look (crcSeal (imgBytes k s id l)) = (⟨k.toNat, size l, id.toNat, s.toNat, crcSum (imgBytes k s id l)⟩, e0) ∧ (k = 1 ∨ k = 2) ∧ 0 ≤ id ∧
      records (crcSeal (imgBytes k s id l)) = (l.map plainR, e0) := by
  unfold pack at h ⊢
  by_cases hg : (grammar k l).code ≠ 0
  · rw [if_pos hg] at h; exact absurd h hg
  rw [if_neg hg] at h ⊢
  by_cases hid : id < 0 ∨ 4294967295 < id
  · rw [if_pos hid] at h; simp [ec] at h
  rw [if_neg hid] at h ⊢
  by_cases hb : ∃ r ∈ l, 65535 < r.body.length
  · rw [if_pos hb] at h; simp [ec] at h
  rw [if_neg hb] at h ⊢
  by_cases hs : 4096 < size l
  · rw [if_pos hs] at h; simp [ec] at h
  rw [if_neg hs] at h ⊢
  have hg0 : (grammar k l).code = 0 := Decidable.of_not_not hg
  obtain ⟨hk, ht⟩ := grammar_tags hg0
  have hbl : ∀ r ∈ l, 1 ≤ r.tag ∧ r.tag ≤ 255 ∧ r.body.length ≤ 65535 := fun r hr => ⟨(ht r hr).1, by have := (ht r hr).2; omega, Nat.le_of_not_lt fun hlt => hb ⟨r, hr, hlt⟩⟩
  have hL := img_length k s id l
  have hse := size_eq l
  have hlen : (crcSeal (imgBytes k s id l)).length = size l := by simp [crcSeal, crcLaid, hL]; omega
  have hsl := s.isLt
  have hf : ∀ a w, a + w ≤ 20 + (recBytes l).length → fld (crcSeal (imgBytes k s id l)) a w = fld (imgBytes k s id l) a w := fun a w hw => fld_more _ _ a w (by rw [hL]; exact hw)
  have hfl : fery.length = 4 := rfl
  have e4 : fld (imgBytes k s id l) 4 2 = 1 := by
    simp only [imgBytes, fld_append, fld_head, hfl, be_length, Nat.reduceLeDiff, Nat.reduceSub, Nat.le_refl, Nat.sub_self]
    rw [num_be _ _ (by decide)]
  have e6 : fld (imgBytes k s id l) 6 2 = k.toNat := by
    simp only [imgBytes, fld_append, fld_head, hfl, be_length, Nat.reduceLeDiff, Nat.reduceSub, Nat.le_refl, Nat.sub_self]
    rw [num_be _ _ (by omega)]
  have e8 : fld (imgBytes k s id l) 8 4 = size l := by
    simp only [imgBytes, fld_append, fld_head, hfl, be_length, Nat.reduceLeDiff, Nat.reduceSub, Nat.le_refl, Nat.sub_self]
    rw [num_be _ _ (by omega)]
  have e12 : fld (imgBytes k s id l) 12 4 = s.toNat := by
    simp only [imgBytes, fld_append, fld_head, hfl, be_length, Nat.reduceLeDiff, Nat.reduceSub, Nat.le_refl, Nat.sub_self]
    rw [num_be _ _ (by omega)]
  have e16 : fld (imgBytes k s id l) 16 4 = id.toNat := by
    simp only [imgBytes, fld_append, fld_head, hfl, be_length, Nat.reduceLeDiff, Nat.reduceSub, Nat.le_refl, Nat.sub_self]
    rw [num_be _ _ (by omega)]
  have hfe : (crcSeal (imgBytes k s id l)).take 4 = fery := by
    rw [crcSeal, List.take_append_of_le_length (by rw [hL]; omega)]
    simp [imgBytes, fery]
  have hlook : look (crcSeal (imgBytes k s id l)) = (⟨k.toNat, size l, id.toNat, s.toNat, crcSum (imgBytes k s id l)⟩, e0) := by
    unfold look
    rw [hlen, if_neg hs, if_neg (by omega), opened_seal, if_neg (by simp), if_neg (by simp [hfe]), hf 4 2 (by omega), e4, if_neg (by simp), hf 6 2 (by omega), e6, if_neg (by omega), hf 8 4 (by omega), e8, if_neg (by simp),
      hf 16 4 (by omega), e16, hf 12 4 (by omega), e12]
  have hmid : ((crcSeal (imgBytes k s id l)).drop 20).take ((crcSeal (imgBytes k s id l)).length - 24) = recBytes l := by
    rw [hlen, hse, show 24 + (recBytes l).length - 24 = (recBytes l).length by omega, crcSeal, List.drop_append_of_le_length (by rw [hL]; omega)]
    have : (imgBytes k s id l).drop 20 = recBytes l := by
      simp only [imgBytes, ← List.append_assoc]
      rw [List.drop_append_of_le_length (by simp [be_length, fery]), List.drop_eq_nil_of_le (by simp [be_length, fery]), List.nil_append]
    rw [this, List.take_append_of_le_length (Nat.le_refl _), List.take_length]
  refine ⟨rfl, hlen, hlook, hk, by omega, ?_⟩
  unfold records
  rw [hlook]
  dsimp only
  rw [if_neg (by simp [e0]), hmid]
  have hsp : split (recBytes l) = (l.map plainR, e0) := by
    have := recs_all (recBytes l) l [] [] hbl (by simp)
    simpa [split] using this
  rw [hsp]
  dsimp only
  rw [if_neg (by simp [e0])]
  have hkk : ((k.toNat : Nat) : Int) = k := by omega
  rw [hkk, grammar_plain, if_neg (by simpa using hg0)]
/-- The least image. -/
def least : List Rc := [⟨1, false, List.replicate 8 0⟩, ⟨4, true, []⟩, ⟨5, true, []⟩, ⟨6, true, []⟩, ⟨7, true, []⟩]
theorem least_ok : (pack 1 7 9 least).2.code = 0 := by
  have h1 : grammar 1 least = e0 := by decide +kernel
  have h2 : size least = 47 := by decide
  unfold pack
  rw [h1, h2, if_neg (by simp [e0]), if_neg (by decide), if_neg (by decide), if_neg (by decide)]; rfl
theorem least_size : size least = 47 := by decide
end Sp
end Go.Fy
