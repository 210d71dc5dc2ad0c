/- Plain Lean: what the program's layer 20 computes, as functions of numbers and lists (my own text; no program in sight). -/
import Derived.Test.YtgaihhimkodmmaaDoorFyT
namespace Go.Fy

structure Xid where
  boot : Int
  peer : Int
  num : Int
  deriving DecidableEq
structure Note where
  kind : Int
  part : Int
  xid : Xid
  stage : Int
  index : Int
  total : Int
  sum : Int
  data : List UInt8
  deriving DecidableEq

def xidAV (x : Xid) : AV := .agg [.int .i64 x.boot, .int .i64 x.peer, .int .i64 x.num]
def noteAV (n : Note) : AV := .agg [.int .i64 n.kind, .int .i64 n.part, xidAV n.xid, .int .i64 n.stage, .int .i64 n.index, .int .i64 n.total, .int .u32 n.sum, .str n.data]

/-- Strings in a row. -/
def strAt (l : List (List UInt8)) (j : Nat) : AV := .str (l.getD j [])
structure Stage where
  part : Int
  stage : Int
  total : Int
  xid : Xid
  pieces : List (List UInt8)
  deriving DecidableEq
/-- 'b': its row is nil. -/
def stageAV (b : Bool) (s : Stage) : AV := .agg [.int .i64 s.part, .int .i64 s.stage, .int .i64 s.total, xidAV s.xid, .sl 1 b s.pieces.length (strAt s.pieces)]

namespace Sp
def within (n lo hi : Int) : Bool := decide (lo ≤ n ∧ n ≤ hi)
def goodXid (x : Xid) : Bool := within x.boot 1 2147483647 && within x.peer 1 2147483647 && within x.num 1 2147483647
def goodPart (p : Int) : Bool := within p 0 7
def goodStage (s : Int) : Bool := decide (s = 1) || decide (s = 2)
def goodLen (n index total : Int) : Bool := if index = total - 1 then within n 1 128 else decide (n = 128)
/-- The same, the sum as Go reckons it. -/
def goodLenW (n index total : Int) : Bool := if index = IntKind.i64.wrap (total - 1) then within n 1 128 else decide (n = 128)
def staged (k : Int) : Bool := decide (k = 1) || decide (k = 7) || decide (k = 2) || decide (k = 3)
def pieces (n : Note) : Bool :=
  if n.kind = 1 then within n.total 1 32 && within n.index 0 (n.total - 1) && goodLen n.data.length n.index n.total
  else if n.kind = 7 then within n.total 1 32 && within n.index 0 (n.total - 1) && decide (n.data = [])
  else decide (n.total = 0) && decide (n.index = 0) && decide (n.data = [])
/-- The number of the error: 0 none. -/
def check (n : Note) : Nat :=
  if within n.kind 1 7 = false then 7
  else if (if staged n.kind then goodStage n.stage else decide (n.stage = 0)) = false ∨ goodPart n.part = false ∨ goodXid n.xid = false ∨ pieces n = false ∨ (n.sum ≠ 0 ∧ n.kind ≠ 2) then 4 else 0
def zero : Note := ⟨0, 0, ⟨0, 0, 0⟩, 0, 0, 0, 0, []⟩
/-- The note that answers another, and the number of the error. -/
def answer (n : Note) (kind sum : Int) : Note × Nat :=
  if check n ≠ 0 then (zero, check n)
  else if kind ≠ 7 ∧ kind ≠ 2 ∧ kind ≠ 3 ∧ kind ≠ 5 then (zero, 7)
  else if n.kind ≠ (if kind = 5 then 4 else 1) ∨ (sum ≠ 0 ∧ kind ≠ 2) then (zero, 12)
  else (⟨kind, n.part, n.xid, n.stage, if kind = 7 then n.index else 0, if kind = 7 then n.total else 0, sum, []⟩, 0)
def chunk (n : Note) : Nat := if check n ≠ 0 then check n else if n.kind ≠ 1 then 7 else 0
theorem chunk_bounds {n : Note} (h : chunk n = 0) : n.kind = 1 ∧ 1 ≤ n.total ∧ n.total ≤ 32 ∧ 0 ≤ n.index ∧ n.index < n.total ∧ 0 ≤ n.part ∧ n.part ≤ 7 := by
  unfold chunk at h
  split at h
  · contradiction
  · rename_i hc
    have hk : n.kind = 1 := by
      by_cases e : n.kind = 1
      · exact e
      · rw [if_pos e] at h; cases h
    have hc : check n = 0 := by simpa using hc
    unfold check at hc
    split at hc
    · cases hc
    · have hnot := fun h => absurd (b := False) (ite_eq_right_iff.1 hc h) (by decide)
      simp only [not_or, Bool.not_eq_false, imp_false] at hnot
      obtain ⟨-, h2, -, h4, -⟩ := hnot
      simp [pieces, hk, within, goodPart] at h4 h2
      omega
def zeroS : Stage := ⟨0, 0, 0, ⟨0, 0, 0⟩, []⟩
def begin_ (n : Note) : Stage × Nat :=
  if chunk n ≠ 0 then (zeroS, chunk n) else (⟨n.part, n.stage, n.total, n.xid, (List.replicate n.total.toNat []).set n.index.toNat n.data⟩, 0)
def goodS (s : Stage) : Bool :=
  goodPart s.part && goodXid s.xid && goodStage s.stage && within s.total 1 32 && decide ((s.pieces.length : Int) = s.total) &&
  (List.range s.pieces.length).all fun i => decide (s.pieces.getD i [] = []) || goodLen (s.pieces.getD i []).length i s.total
end Sp

/-- The error of a number. -/
def errD (c : Nat) : ErrD := if c = 0 then .nil else .code c

theorem errD_nil (c : Nat) : (errD c).isNil = decide (c = 0) := by unfold errD; split <;> simp [ErrD.isNil, *]

theorem w64 {n : Int} (h : -9223372036854775808 ≤ n ∧ n ≤ 9223372036854775807) : IntKind.i64.wrap n = n := by rw [IntKind.wrap_i64]; omega
theorem wu32 {n : Int} (h : 0 ≤ n ∧ n ≤ 4294967295) : IntKind.u32.wrap n = n := by rw [IntKind.wrap_u32]; omega
theorem wu8 {n : Int} (h : 0 ≤ n ∧ n ≤ 255) : IntKind.u8.wrap n = n := by rw [IntKind.wrap_u8]; omega
theorem Sp.wrap_total (t : Int) (h : Sp.within t 1 32 = true) : IntKind.i64.wrap (t - 1) = t - 1 := by
  simp [Sp.within] at h; exact w64 (by omega)
theorem Sp.goodLenW_eq (n i t : Int) (h : Sp.within t 1 32 = true) : Sp.goodLenW n i t = Sp.goodLen n i t := by simp only [Sp.goodLenW, Sp.goodLen, Sp.wrap_total t h]
namespace Sp
/-- The first place that has it, or -1. -/
def idx (p : Nat → Bool) (n : Nat) : Int := match (List.range n).find? p with
  | some j => j
  | none => -1
theorem idx_found {p : Nat → Bool} {n i : Nat} (h : ∀ j, j < i → p j = false) (hi : p i = true) (hn : i < n) : idx p n = i := by
  have : (List.range n).find? p = some i := by
    rw [List.find?_range_eq_some]
    exact ⟨hi, by simpa using hn, fun j hj => by simpa using h j hj⟩
  simp [idx, this]
theorem idx_none {p : Nat → Bool} {n : Nat} (h : ∀ j, j < n → p j = false) : idx p n = -1 := by
  have : (List.range n).find? p = none := by
    rw [List.find?_eq_none]
    intro j hj
    simp [h j (by simpa using hj)]
  simp [idx, this]
theorem idx_nonneg (p : Nat → Bool) (n : Nat) : decide (0 ≤ idx p n) = (List.range n).any p := by
  unfold idx
  cases hf : (List.range n).find? p with
  | some j =>
    have := List.find?_some hf
    have hm := List.mem_of_find?_eq_some hf
    simp only [Int.natCast_nonneg, decide_true]
    symm; rw [List.any_eq_true]; exact ⟨j, hm, this⟩
  | none =>
    rw [List.find?_eq_none] at hf
    simp only [show ¬ (0 ≤ (-1 : Int)) by omega, decide_false]
    symm; rw [List.any_eq_false]; exact hf
end Sp
theorem Xid.eq_iff (x y : Xid) : x = y ↔ x.boot = y.boot ∧ x.peer = y.peer ∧ x.num = y.num := by
  cases x; cases y; simp
namespace Sp
theorem goodS_bounds {s : Stage} (h : goodS s = true) : 1 ≤ s.total ∧ s.total ≤ 32 ∧ (s.pieces.length : Int) = s.total := by
  simp only [goodS, Bool.and_eq_true, decide_eq_true_eq] at h
  obtain ⟨⟨⟨⟨⟨-, -⟩, -⟩, h4⟩, h5⟩, -⟩ := h
  simp [within] at h4
  omega
def add (s : Stage) (n : Note) : Stage × Bool × Nat :=
  if goodS s = false then (zeroS, false, 9)
  else if chunk n ≠ 0 then (zeroS, false, chunk n)
  else if n.part ≠ s.part ∨ n.xid ≠ s.xid ∨ n.stage ≠ s.stage ∨ n.total ≠ s.total then (zeroS, false, 10)
  else if s.pieces.getD n.index.toNat [] ≠ [] ∧ s.pieces.getD n.index.toNat [] ≠ n.data then (zeroS, false, 14)
  else ({ s with pieces := s.pieces.set n.index.toNat n.data }, decide (s.pieces.getD n.index.toNat [] = []), 0)
def missing (s : Stage) : List Int × Nat :=
  if goodS s = false then ([], 9) else (((List.range s.pieces.length).filter fun j => decide (s.pieces.getD j [] = [])).map fun (j : Nat) => (j : Int), 0)
end Sp
namespace Sp
/-- Which of the first i pieces are missing. -/
def gone (s : Stage) (i : Nat) : List Int := ((List.range i).filter fun j => decide (s.pieces.getD j [] = [])).map fun (j : Nat) => (j : Int)
theorem gone_succ (s : Stage) (i : Nat) : gone s (i + 1) = if s.pieces.getD i [] = [] then gone s i ++ [(i : Int)] else gone s i := by
  simp only [gone, List.range_succ, List.filter_append, List.map_append]
  by_cases h : s.pieces.getD i [] = []
  · rw [if_pos h]; simp only [List.filter_cons, h, decide_true, if_true, List.filter_nil, List.map_cons, List.map_nil]
  · rw [if_neg h]; simp only [List.filter_cons, h, decide_false, Bool.false_eq_true, if_false, List.filter_nil, List.map_nil, List.append_nil]
end Sp
theorem Sp.gone_len (s : Stage) (i : Nat) : (Sp.gone s i).length ≤ i := by
  simp only [Sp.gone, List.length_map]
  exact Nat.le_trans (List.length_filter_le _ _) (by simp)
theorem Sp.int_append (l : List Int) (x : Int) (j : Nat) (hj : j < l.length + 1) :
    (if j < l.length then AV.int .i64 (l.getD j 0) else if j - l.length = 0 then AV.int .i64 x else AV.int .i64 0) = AV.int .i64 ((l ++ [x]).getD j 0) := by
  by_cases h : j < l.length
  · rw [if_pos h]; simp [List.getD_eq_getElem?_getD, List.getElem?_append_left h]
  · have : j = l.length := by omega
    subst this; simp
structure Recv where
  on : Bool
  stage : Stage
  deriving DecidableEq
def recvAV (b : Bool) (r : Recv) : AV := .agg [.bool r.on, stageAV b r.stage]
namespace Sp
def goodR (r : Recv) : Bool :=
  if r.on = false then decide (r.stage.part = 0) && decide (r.stage.stage = 0) && decide (r.stage.total = 0) && decide (r.stage.xid = ⟨0, 0, 0⟩) && decide (r.stage.pieces.length = 0)
  else goodS r.stage && (List.range r.stage.pieces.length).any fun j => !decide (r.stage.pieces.getD j [] = [])
end Sp
namespace Sp
def zeroR : Recv := ⟨false, zeroS⟩
/-- What a piece that comes makes of a stage. -/
def come (r : Recv) (n : Note) : Stage × Nat :=
  if r.on = true ∧ r.stage.part = n.part ∧ r.stage.xid = n.xid ∧ r.stage.stage = n.stage ∧ r.stage.total = n.total then ((add r.stage n).1, (add r.stage n).2.2) else begin_ n
def take (r : Recv) (n : Note) : Recv × Note × Nat :=
  if goodR r = false then (zeroR, zero, 9)
  else if check n ≠ 0 then (zeroR, zero, check n)
  else if n.kind ≠ 1 then (zeroR, zero, 7)
  else if (come r n).2 ≠ 0 then (zeroR, zero, (come r n).2)
  else (⟨true, (come r n).1⟩, (answer n 7 0).1, (answer n 7 0).2)
theorem answer_ack {n : Note} (h : check n = 0) (hk : n.kind = 1) : (answer n 7 0).2 = 0 := by simp [answer, h, hk]
end Sp
namespace Sp
/-- The k-th piece of an image. -/
def pieceOf (im : List UInt8) (k : Nat) : List UInt8 := (im.drop (128 * k)).take 128
def cutNote (p : Int) (x : Xid) (st : Int) (im : List UInt8) (k : Nat) (j : Nat) (tot : Int) : Note := ⟨1, p, x, st, j, tot, 0, pieceOf im k⟩
def total (im : List UInt8) : Nat := (im.length + 127) / 128
def notes (p : Int) (x : Xid) (st : Int) (im : List UInt8) : List Note := (List.range (total im)).map fun j => cutNote p x st im j j (total im)
def cut (p : Int) (x : Xid) (st : Int) (im : List UInt8) : List Note × Nat :=
  if (goodPart p && goodXid x && goodStage st) = false then ([], 12) else if within im.length 1 4096 = false then ([], 11) else (notes p x st im, 0)
theorem pieceOf_length (im : List UInt8) (k : Nat) : (pieceOf im k).length = min 128 (im.length - 128 * k) := by simp [pieceOf]
theorem pieceOf_get (im : List UInt8) (k j : Nat) (hj : j < min 128 (im.length - 128 * k)) : (pieceOf im k).getD j 0 = im.getD (128 * k + j) 0 := by
  simp only [pieceOf, List.getD_eq_getElem?_getD]
  rw [List.getElem?_take_of_lt (by omega), List.getElem?_drop]
theorem cut_append (p : Int) (x : Xid) (st : Int) (im : List UInt8) (pre : List Nat) (k j n : Nat) (hn : n = pre.length) (Z : AV) (hj : j < n + 1) :
    (if j < n then noteAV (cutNote p x st im (pre.getD j 0) j 0) else if j - n = 0 then noteAV (cutNote p x st im k n 0) else Z) = noteAV (cutNote p x st im ((pre ++ [k]).getD j 0) j 0) := by
  subst hn
  simp only [List.getD_eq_getElem?_getD, List.getElem?_append]
  by_cases h : j < pre.length
  · rw [if_pos h, if_pos h]
  · obtain rfl : j = pre.length := by omega
    simp
theorem cut_tot (p : Int) (x : Xid) (st : Int) (im : List UInt8) (j i : Nat) (T : Int) (w : AV) (hw : i = j → w = noteAV (cutNote p x st im j j T)) :
    (if j = i then w else noteAV (cutNote p x st im j j (if j < i then T else 0))) = noteAV (cutNote p x st im j j (if j < i + 1 then T else 0)) := by
  by_cases h : j = i
  · rw [if_pos h, hw h.symm, if_pos (by omega)]
  · rw [if_neg h]
    by_cases h2 : j < i
    · rw [if_pos h2, if_pos (by omega)]
    · rw [if_neg h2, if_neg (by omega)]
theorem range_get (n j : Nat) (hj : j < n) : (List.range n).getD j 0 = j := by simp [List.getD_eq_getElem?_getD, hj]
theorem notes_length (p : Int) (x : Xid) (st : Int) (im : List UInt8) : (notes p x st im).length = total im := by simp [notes]
theorem notes_get (p : Int) (x : Xid) (st : Int) (im : List UInt8) (j : Nat) (hj : j < total im) (z : Note) : (notes p x st im).getD j z = cutNote p x st im j j (total im) := by
  simp [notes, List.getD_eq_getElem?_getD, hj]
end Sp
namespace Sp
def whole (s : Stage) : List UInt8 × Bool × Nat :=
  if goodS s = false then ([], false, 9) else if (List.range s.pieces.length).any (fun j => decide (s.pieces.getD j [] = [])) then ([], false, 0) else (s.pieces.flatten, true, 0)
theorem flat_le (c : Nat) : ∀ l : List (List UInt8), (∀ x, x ∈ l → x.length ≤ c) → l.flatten.length ≤ c * l.length
  | [], _ => by simp
  | a :: l, h => by
    have h1 := flat_le c l (fun x hx => h x (List.mem_cons_of_mem _ hx))
    have h2 := h a (List.mem_cons_self ..)
    rw [List.flatten_cons, List.length_append, List.length_cons, Nat.mul_succ]; omega
theorem goodS_piece {s : Stage} (h : goodS s = true) (x : List UInt8) (hx : x ∈ s.pieces) : x.length ≤ 128 := by
  simp only [goodS, Bool.and_eq_true, List.all_eq_true, List.mem_range, Bool.or_eq_true, decide_eq_true_eq] at h
  obtain ⟨j, hj, rfl⟩ := List.mem_iff_getElem.1 hx
  have h1 := h.2 j hj
  rw [List.getD_eq_getElem?_getD, List.getElem?_eq_getElem hj, Option.getD_some] at h1
  rcases h1 with h1 | h1
  · simp [h1]
  · unfold goodLen within at h1
    split at h1 <;> simp at h1 <;> omega
theorem goodS_flat {s : Stage} (h : goodS s = true) : s.pieces.flatten.length ≤ 4096 := by
  have h1 := flat_le 128 s.pieces (goodS_piece h)
  have h2 := goodS_bounds h
  omega
end Sp
end Go.Fy
