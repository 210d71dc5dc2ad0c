/- My own texts, packed: Shelf. -/
import Derived.Shelf.Strings.Builder1
import Derived.Shelf.Strings.Builder2
import Derived.Shelf.Strings.OnBuilder
import Derived.Shelf.Small.Bits
import Derived.Ground.Names2Prog
import Derived.Shelf.Slices.Clone
import Derived.Shelf.Bytes.SlSearch0
import Derived.Ground.SlbCloneProg
import Derived.Shelf.Bytes.SlClone
import Derived.Ground.SlgnProg
import Derived.Shelf.SlicesE.Clone
import Derived.Shelf.Bytes.SlEqualAll
import Derived.Shelf.Bytes.Small
import Derived.Test.YtgaihhimkodmmaaDoorProg
/-
  DERIVED: THE SHELF's CONTRACTS AT THIS DUMP, IN PLAIN WORDS (tools/lay-plain.mjs out of 'TrydShelf.lean', which tools/lay-shelf.mjs wrote): THE SAME DECLARATIONS UNDER THE SAME NAMES: 'import', 'namespace', 'open', 'def', 'theorem' AND NOTHING ELSE: no command of the shelf's: FOR A HAND-IN. Each laying: the table of numbers ('.._ren') and one theorem, a field a fact of the dump's own or the kernel's comparison; each contract: ONE APPLICATION.
-/
namespace Go.Proofs
open Go.Shelf
def Tryd.lays169_ren : Go.Shelf.Ren := ⟨fun | 169 => 129 | n => n, fun | 70 => 191 | 9 => 9 | 0 => 0 | 72 => 193 | 37 => 36 | 127 => 207 | 3 => 3 | 5 => 5 | n => n, fun | n => n⟩
open Go.RowKit in
open Go.RowKit in
open Go.RowKit in
def Tryd.lays241_ren : Go.Shelf.Ren := ⟨fun | 241 => 141 | 277 => 151 | n => n, fun | 70 => 191 | 3 => 3 | 0 => 0 | 72 => 193 | 37 => 36 | 5 => 5 | n => n, fun | n => n⟩
open Go.RowKit in
def Tryd.lays165_ren : Go.Shelf.Ren := ⟨fun | 165 => 127 | 240 => 140 | 241 => 141 | 276 => 150 | 277 => 151 | n => n, fun | 70 => 191 | 3 => 3 | 0 => 0 | 4 => 4 | 9 => 9 | 20 => 20 | 72 => 193 | 37 => 36 | 164 => 208 | 5 => 5 | n => n, fun | n => n⟩
open Go.RowKit in
def Tryd.lays156_ren : Go.Shelf.Ren := ⟨fun | 156 => 96 | 165 => 127 | 166 => 128 | 169 => 129 | 240 => 140 | 241 => 141 | 276 => 150 | 277 => 151 | n => n, fun | 31 => 51 | 9 => 9 | 3 => 3 | 4 => 4 | 0 => 0 | 20 => 20 | 72 => 193 | 76 => 131 | 70 => 191 | 37 => 36 | 75 => 29 | 127 => 207 | 164 => 208 | 5 => 5 | 80 => 195 | n => n, fun | n => n⟩
theorem Tryd.lays156 : Go.Proofs.Lays.n156 Tryd.prog Tryd.lays156_ren := {
  mixed := by kernel_rfl
  f156 := Tryd.func96.trans (congrArg some (by kernel_rfl))
  f165 := Tryd.func127.trans (congrArg some (by kernel_rfl))
  f166 := Tryd.func128.trans (congrArg some (by kernel_rfl))
  f169 := Tryd.func129.trans (congrArg some (by kernel_rfl))
  f240 := Tryd.func140.trans (congrArg some (by kernel_rfl))
  f241 := Tryd.func141.trans (congrArg some (by kernel_rfl))
  f276 := Tryd.func150.trans (congrArg some (by kernel_rfl))
  f277 := Tryd.func151.trans (congrArg some (by kernel_rfl))
  t0 := Tryd.underlying0
  a0 := Tryd.isAgg0
  z0 := Tryd.sizeOf0
  v0 := Tryd.zeroValue0
  t3 := Tryd.underlying3
  a3 := Tryd.isAgg3
  z3 := Tryd.sizeOf3
  v3 := Tryd.zeroValue3
  t4 := Tryd.underlying4
  a4 := Tryd.isAgg4
  z4 := Tryd.sizeOf4
  v4 := Tryd.zeroValue4
  t9 := Tryd.underlying9
  a9 := Tryd.isAgg9
  z9 := Tryd.sizeOf9
  v9 := Tryd.zeroValue9
  t20 := Tryd.underlying20
  a20 := Tryd.isAgg20
  z20 := Tryd.sizeOf20
  v20 := Tryd.zeroValue20
  t31 := Tryd.underlying51
  a31 := Tryd.isAgg51
  z31 := Tryd.sizeOf51
  v31 := Tryd.zeroValue51
  t37 := Tryd.underlying36
  a37 := Tryd.isAgg36
  z37 := Tryd.sizeOf36
  v37 := Tryd.zeroValue36
  t70 := Tryd.underlying191
  a70 := Tryd.isAgg191
  z70 := Tryd.sizeOf191
  v70 := Tryd.zeroValue191
  t72 := Tryd.underlying193
  a72 := Tryd.isAgg193
  z72 := Tryd.sizeOf193
  v72 := Tryd.zeroValue193
  t75 := Tryd.underlying29
  a75 := Tryd.isAgg29
  z75 := Tryd.sizeOf29
  v75 := Tryd.zeroValue29
  t76 := Tryd.underlying131
  a76 := Tryd.isAgg131
  z76 := Tryd.sizeOf131
  v76 := Tryd.zeroValue131
  t127 := Tryd.underlying207
  a127 := Tryd.isAgg207
  z127 := Tryd.sizeOf207
  v127 := Tryd.zeroValue207
  t164 := Tryd.underlying208
  a164 := Tryd.isAgg208
  z164 := Tryd.sizeOf208
  v164 := Tryd.zeroValue208 }
theorem Tryd.Builder_Extra_156 : Builder.Extra Tryd.prog Tryd.lays156_ren := {
  sizeBuilder := by kernel_rfl
  liesBuilder := by kernel_rfl
  t5 := Tryd.underlying5
  a5 := Tryd.isAgg5
  z5 := Tryd.sizeOf5
  v5 := Tryd.zeroValue5
  infoByte := by kernel_rfl
  cellsByte := by kernel_rfl
  sizeByte := by kernel_rfl
  neB5 := by decide }
open Go.RowKit in
/-- No element: the empty string; the world is as it was. (Whatever the slice's address and capacity: a nil slice too.) (LAID: no walk: one application.) -/
theorem Tryd.strings_Join_none (a : Option Addr) (c : Nat) (sep : ByteArray) (w : World) :
    Calls Tryd.prog 96 #[.slice a 0 c, .string sep] w fun e w' => e = .returned (.string ⟨#[]⟩) ∧ w' = w := Any.strings_Join_none Tryd.lays156 Tryd.Builder_Extra_156 a c sep w
open Go.RowKit in
/-- strings.Join: "Join concatenates the elements of its first argument to create a single string. The separator string sep is placed between elements in the resulting string.": HOWEVER MANY ELEMENTS. Below the heap's end the world is as it was. (LAID: no walk: one application.) -/
theorem Tryd.strings_Join (bk o c : Nat) (xs : List ByteArray) (sep : ByteArray) (w : World) (hcells : ∀ (j : Nat) x, xs[j]? = some x → w.cell? ⟨bk, o + j, none⟩ = some (.string x)) (hbk : bk < w.heap.size) (hN : xs.length ≤ 140737488355328) (hcap : xs.length ≤ c) (hlen : (Lib.join (xs.map (·.data.toList)) sep.data.toList).length ≤ 140737488355328) :
    Calls Tryd.prog 96 #[.slice (some ⟨bk, o, none⟩) xs.length c, .string sep] w fun e w' => e = .returned (.string ⟨(Lib.join (xs.map (·.data.toList)) sep.data.toList).toArray⟩) ∧ Below w.heap.size w w' := Any.strings_Join Tryd.lays156 Tryd.Builder_Extra_156 bk o c xs sep w hcells hbk hN hcap hlen
def Tryd.lays128_ren : Go.Shelf.Ren := ⟨fun | 128 => 73 | n => n, fun | 51 => 24 | 3 => 3 | 4 => 4 | 46 => 40 | 5 => 5 | 9 => 9 | n => n, fun | n => n⟩
def Tryd.laysNm216_ren : Go.Shelf.Ren := ⟨fun | 16 => 94 | n => n, fun | 24 => 51 | 9 => 9 | 4 => 4 | n => n, fun | n => n⟩
open Go.RowKit Go.Lib in
open Go.RowKit Go.Lib in
open Go.RowKit Go.Lib in
def Tryd.lays115_ren : Go.Shelf.Ren := ⟨fun | 115 => 107 | n => n, fun | 37 => 36 | 4 => 4 | 9 => 9 | 5 => 5 | n => n, fun | n => n⟩
open Go.Proofs Go.RowKit Go.Lib in
def Tryd.laysSlK4_ren : Go.Shelf.Ren := ⟨fun | 4 => 74 | n => n, fun | 22 => 36 | 4 => 4 | 5 => 5 | n => n, fun | n => n⟩
open Go.RowKit Go.Lib in
open Go.RowKit Go.Lib in
def Tryd.laysSlE041_f94_ren : Go.Shelf.Ren := ⟨fun | 41 => 94 | n => n, fun | 22 => 51 | 23 => 9 | 4 => 4 | n => n, fun | n => n⟩
open Go.RowKit Go.Lib in
def Tryd.laysSlE041_f119_ren : Go.Shelf.Ren := ⟨fun | 41 => 119 | n => n, fun | 22 => 43 | 23 => 4 | 4 => 4 | n => n, fun | n => n⟩
open Go.RowKit Go.Lib in
open Go.RowKit Go.Lib in
open Go.RowKit Go.Lib in
def Tryd.laysnb115_ren : Go.Shelf.Ren := ⟨fun | 115 => 107 | n => n, fun | 37 => 36 | 4 => 4 | 9 => 9 | 5 => 5 | n => n, fun | n => n⟩
end Go.Proofs
