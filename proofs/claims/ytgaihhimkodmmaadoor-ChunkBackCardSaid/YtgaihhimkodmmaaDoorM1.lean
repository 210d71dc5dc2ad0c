/- My own texts, packed: KAx. -/
import Derived.Test.YtgaihhimkodmmaaDoorProg
import Derived.RangeFuncKeeps
import Derived.RangeFuncFrom
import Derived.RangeFuncBound
import Derived.Shelf.Abstract
import Derived.Shelf.RegionOpen
import Derived.WalkKit
import Derived.OwnWalkIn
import Derived.TacticsInMore
import Derived.LoopNIn
import Derived.LoopIn
import Derived.IntWalk
/- Go's library: the closure of slices.Chunk gives the pieces of a row (a walk over this dump, by the kit's words). -/
namespace Go.Proofs.YtgaihhimkodmmaaDoor
open Go.RowKit Go.Shelf
attribute [local go_sem] Oper.semAt_some
set_option maxRecDepth 100000 in
set_option maxHeartbeats 2000000 in
theorem chunk_in (F : Fence) (m : Nat) (hf : F.fn 124) (hro : F.round = none) (hm : 1 ≤ m) (l B1 O1 B2 O2 b off len cap : Nat) (hle : len ≤ cap) (hb : len ≤ 4611686018427387904) (Kp : World → World → Prop) (J Jx : List Nat → World → Prop)
    (hJd : ∀ pre W, J pre W → J pre W.drew)
    (hK1 : ∀ A B, Kp A B → ∀ v, A.cell? ⟨B1, O1, none⟩ = some v → B.cell? ⟨B1, O1, none⟩ = some v) (hK2 : ∀ A B, Kp A B → ∀ v, A.cell? ⟨B2, O2, none⟩ = some v → B.cell? ⟨B2, O2, none⟩ = some v)
    (hY : ∀ pre x W, J pre W → pre.length < (len + 127) / 128 → YieldAt F (m - 1) Tryd.prog l #[if 128 * x < len then .slice (some ⟨b, off + 128 * x, none⟩) (min 128 (len - 128 * x)) (min 128 (len - 128 * x)) else .slice none 0 0] W fun e W' =>
      (e = .returned (.bool true) ∧ J (pre ++ [x]) W' ∧ Kp W W') ∨ (e = .returned (.bool false) ∧ Jx (pre ++ [x]) W'))
    (W : World) (h1 : W.cell? ⟨B1, O1, none⟩ = some (.slice (some ⟨b, off, none⟩) len cap)) (h2 : W.cell? ⟨B2, O2, none⟩ = some (.int .i64 128)) (h0 : J [] W) :
    CallsIn F m Tryd.prog 124 #[.func (.yield l) #[] #[], .pointer (some ⟨B1, O1, none⟩), .pointer (some ⟨B2, O2, none⟩)] W fun e W' => (∃ v, e = .returned v) ∧
      ((∃ ys, ys = List.range ((len + 127) / 128) ∧ J ys W') ∨ (∃ pre, True ∧ Jx pre W')) := by
  refine callsIn_of_wp Tryd.func124 rfl hf ?_ hro
  simp only [Tryd.ntmps124, List.size_toArray, List.length_cons, List.length_nil, Nat.reduceAdd, Nat.reduceSub, Array.replicate_succ, Array.replicate_zero, List.push_toArray, List.append_toArray, List.nil_append, List.cons_append]
  gi_wp2
  gi_loopw [4] (fun i wr => ∃ k : Nat, k ≤ (len + 127) / 128 ∧ i = .int .i64 ((128 * k : Nat) : Int) ∧ J (List.range k) wr ∧ wr.cell? ⟨B1, O1, none⟩ = some (.slice (some ⟨b, off, none⟩) len cap) ∧ wr.cell? ⟨B2, O2, none⟩ = some (.int .i64 128))
    (fun i _ => (len + 128) - (intOf i).toNat)
  case atStart => exact ⟨0, Nat.zero_le _, rfl, h0, h1, h2⟩
  case round =>
    obtain ⟨k, hk, rfl, hJs, hc1, hc2⟩ := hrel
    by_cases hlt : 128 * k < len
    · by_cases hend : 128 * k + 128 ≤ len
      · have hA : (if ((len - 128 * k : Nat) : Int) < 128 then ((len - 128 * k : Nat) : Int) else 128) = 128 := if_neg (by omega)
        obtain ⟨fn, tmps, assign, body, hy, hR⟩ := hY _ k wr.drew (hJd _ _ hJs) (by rw [List.length_range]; omega)
        rw [if_pos hlt, show min 128 (len - 128 * k) = 128 by omega] at hy
        gi_wp2
        gi_region
        all_goals (try simp only [hA])
        all_goals clear hA
        all_goals gi_wp2
        all_goals
          refine hR.mono ?_
          rintro e W3 (⟨rfl, hJ3, hk3⟩ | ⟨rfl, hJx3⟩)
          · have hd1 := hK1 _ _ hk3 _ hc1
            have hd2 := hK2 _ _ hk3 _ hc2
            clear hy hR
            gi_wp2
            go_roundw
            case rel => exact ⟨k + 1, by omega, by simp; omega, by rw [List.range_succ]; exact hJ3, hd1, hd2⟩
            case measure => simp [intOf]; omega
          · clear hy hR
            gi_wp2
            refine bodyPost_ret (results_none rfl _ _ _) rfl ?_
            exact ⟨⟨_, rfl⟩, .inr ⟨_, trivial, hJx3⟩⟩
      · obtain ⟨e, rfl⟩ : ∃ e, len = 128 * k + e := ⟨len - 128 * k, by omega⟩
        have he1 : e < 128 := by omega
        have he0 : 0 < e := by omega
        have hA : (if ((128 * k + e - 128 * k : Nat) : Int) < 128 then ((128 * k + e - 128 * k : Nat) : Int) else 128) = (e : Int) := by rw [if_pos (by omega)]; omega
        have hA2 : (if (e : Int) < 128 then (e : Int) else 128) = (e : Int) := if_pos (by omega)
        obtain ⟨fn, tmps, assign, body, hy, hR⟩ := hY _ k wr.drew (hJd _ _ hJs) (by rw [List.length_range]; omega)
        rw [if_pos hlt, show min 128 (128 * k + e - 128 * k) = e by omega] at hy
        gi_wp2
        gi_region
        all_goals (try simp only [hA, hA2])
        all_goals clear hA hA2
        all_goals gi_wp2
        all_goals
          refine hR.mono ?_
          rintro e W3 (⟨rfl, hJ3, hk3⟩ | ⟨rfl, hJx3⟩)
          · have hd1 := hK1 _ _ hk3 _ hc1
            have hd2 := hK2 _ _ hk3 _ hc2
            clear hy hR
            gi_wp2
            go_roundw
            case rel => exact ⟨k + 1, by omega, by simp; omega, by rw [List.range_succ]; exact hJ3, hd1, hd2⟩
            case measure => simp [intOf]; omega
          · clear hy hR
            gi_wp2
            refine bodyPost_ret (results_none rfl _ _ _) rfl ?_
            exact ⟨⟨_, rfl⟩, .inr ⟨_, trivial, hJx3⟩⟩
    · gi_wp2
      go_end0
      exact ⟨⟨_, rfl⟩, .inl ⟨_, by rw [show k = (len + 127) / 128 by omega], hJs⟩⟩
end Go.Proofs.YtgaihhimkodmmaaDoor
