/- Plain Lean: what the program's layer 22 computes, as functions of numbers and lists (my own text; no program in sight). -/
import Derived.Test.YtgaihhimkodmmaaDoorFyS
namespace Go.Fy
structure Send where
  part : Int
  xid : Xid
  stage : Int
  image : List UInt8
  acked : List Bool
  rounds : Int
  deriving DecidableEq
/-- Booleans in a row. -/
def blAt (l : List Bool) (j : Nat) : AV := .bool (l.getD j false)
def sendAV (b : Bool) (s : Send) : AV := .agg [.int .i64 s.part, xidAV s.xid, .int .i64 s.stage, .str s.image, .sl 1 b s.acked.length (blAt s.acked), .int .i64 s.rounds]
/-- Notes in a row. -/
def noAt (l : List Note) (j : Nat) : AV := noteAV (l.getD j Sp.zero)
namespace Sp
def zeroSend : Send := ⟨0, ⟨0, 0, 0⟩, 0, [], [], 0⟩
def cutS (s : Send) : List Note × Nat := cut s.part s.xid s.stage s.image
def start (p : Int) (x : Xid) (st : Int) (im : List UInt8) : Send × Nat :=
  if (cut p x st im).2 ≠ 0 then (zeroSend, (cut p x st im).2) else (⟨p, x, st, im, List.replicate (cut p x st im).1.length false, 0⟩, 0)
def goodSend (s : Send) : Bool := decide ((cutS s).2 = 0) && decide ((cutS s).1.length = s.acked.length) && decide (0 ≤ s.rounds)
/-- The first i pieces that aren't acknowledged. -/
def dueTo (s : Send) (i : Nat) : List Note := ((List.range i).filter fun j => !s.acked.getD j false).map fun j => (cutS s).1.getD j zero
def due (s : Send) : List Note × Nat := if goodSend s = false then ([], 9) else (dueTo s (cutS s).1.length, 0)
theorem dueTo_succ (s : Send) (i : Nat) : dueTo s (i + 1) = if s.acked.getD i false = false then dueTo s i ++ [(cutS s).1.getD i zero] else dueTo s i := by
  unfold dueTo
  rw [List.range_succ, List.filter_append, List.map_append]
  cases h : s.acked.getD i false <;> rw [List.filter_cons] <;> rw [h] <;> simp
theorem dueTo_len (s : Send) (i : Nat) : (dueTo s i).length ≤ i := by
  unfold dueTo; rw [List.length_map]; exact Nat.le_trans (List.length_filter_le _ _) (by simp)
theorem cut_len (p : Int) (x : Xid) (st : Int) (im : List UInt8) : (cut p x st im).1.length ≤ 32 ∧ ((cut p x st im).2 = 0 → 1 ≤ (cut p x st im).1.length ∧ 1 ≤ im.length ∧ im.length ≤ 4096) := by
  unfold cut
  split
  · simp
  · split
    · simp
    · rename_i h
      simp only [within, decide_eq_false_iff_not, Classical.not_not] at h
      simp only [notes_length, total]
      omega
def wholeR (r : Recv) : List UInt8 × Bool × Nat := if goodR r = false then ([], false, 9) else if r.on = false then ([], false, 0) else whole r.stage
end Sp
/-- Rows that grow. -/
theorem no_append (l : List Note) (x : Note) (j n : Nat) (hn : n = l.length) (Z : AV) (hj : j < n + 1) :
    (if j < n then noAt l j else if j - n = 0 then noteAV x else Z) = noAt (l ++ [x]) j := by
  subst hn
  simp only [noAt, List.getD_eq_getElem?_getD, List.getElem?_append]
  by_cases h : j < l.length
  · rw [if_pos h, if_pos h]
  · obtain rfl : j = l.length := by omega
    simp
theorem b_append (l : List UInt8) (x : UInt8) (j n : Nat) (hn : n = l.length) (Z : AV) (hj : j < n + 1) :
    (if j < n then bAt l j else if j - n = 0 then .int .u8 (x.toNat : Int) else Z) = bAt (l ++ [x]) j := by
  subst hn
  simp only [bAt, List.getD_eq_getElem?_getD, List.getElem?_append]
  by_cases h : j < l.length
  · rw [if_pos h, if_pos h]
  · obtain rfl : j = l.length := by omega
    simp
namespace Sp
/-- So many bytes, from 0 on. -/
def dataL (n : Nat) : List UInt8 := (List.range n).map UInt8.ofNat
theorem dataL_len (n : Nat) : (dataL n).length = n := by simp [dataL]
theorem dataL_succ (n : Nat) : dataL (n + 1) = dataL n ++ [UInt8.ofNat n] := by simp [dataL, List.range_succ]
end Sp
theorem u8_wrap (n : Nat) : IntKind.u8.wrap (n : Int) = ((UInt8.ofNat n).toNat : Int) := by
  simp [IntKind.wrap, IntKind.bits, IntKind.signed]
namespace Sp
/-! The fixed fact of layer 22's statements: an image of 130 bytes in two pieces. -/
def aX : Xid := ⟨1, 1, 2⟩
def aS : Send := ⟨2, aX, 1, dataL 130, [false, false], 0⟩
def aN0 : Note := ⟨1, 2, aX, 1, 0, 2, 0, dataL 128⟩
def aN1 : Note := ⟨1, 2, aX, 1, 1, 2, 0, [128, 129]⟩
def aA0 : Note := ⟨7, 2, aX, 1, 0, 2, 0, []⟩
def aA1 : Note := ⟨7, 2, aX, 1, 1, 2, 0, []⟩
def aR1 : Recv := ⟨true, ⟨2, 1, 2, aX, [[], [128, 129]]⟩⟩
def aR2 : Recv := ⟨true, ⟨2, 1, 2, aX, [dataL 128, [128, 129]]⟩⟩
theorem aw_start : start 2 aX 1 (dataL 130) = (aS, 0) := by decide +kernel
theorem aw_due : due aS = ([aN0, aN1], 0) := by decide +kernel
theorem aw_take1 : take zeroR aN1 = (aR1, aA1, 0) := by decide +kernel
theorem aw_take2 : take aR1 aN0 = (aR2, aA0, 0) := by decide +kernel
theorem aw_whole : wholeR aR2 = (dataL 130, true, 0) := by decide +kernel
end Sp
end Go.Fy
