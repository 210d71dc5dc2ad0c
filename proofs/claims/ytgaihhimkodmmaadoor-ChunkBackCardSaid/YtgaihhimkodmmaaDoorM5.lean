/- My own texts, packed: Shelf. -/
import Derived.Shelf.Strings.Builder1
import Derived.Shelf.Strings.Builder2
import Derived.Shelf.Strings.OnBuilder
import Derived.Shelf.Small.Bits
import Derived.Ground.Names2Prog
import Derived.Shelf.Slices.Clone
import Derived.Shelf.Bytes.SlSearch0
import Derived.Ground.SlbCloneProg
import Derived.Shelf.Bytes.SlClone
import Derived.Ground.SlgnProg
import Derived.Shelf.SlicesE.Clone
import Derived.Shelf.Bytes.SlEqualAll
import Derived.Shelf.Bytes.Small
import Derived.Test.YtgaihhimkodmmaaDoorProg
/-
  DERIVED: THE SHELF's CONTRACTS AT THIS DUMP, IN PLAIN WORDS (tools/lay-plain.mjs out of 'TrydShelf.lean', which tools/lay-shelf.mjs wrote): THE SAME DECLARATIONS UNDER THE SAME NAMES: 'import', 'namespace', 'open', 'def', 'theorem' AND NOTHING ELSE: no command of the shelf's: FOR A HAND-IN. Each laying: the table of numbers ('.._ren') and one theorem, a field a fact of the dump's own or the kernel's comparison; each contract: ONE APPLICATION.
-/
namespace Go.Proofs
open Go.Shelf
def Tryd.lays169_ren : Go.Shelf.Ren := ⟨fun | 169 => 129 | n => n, fun | 70 => 191 | 9 => 9 | 0 => 0 | 72 => 193 | 37 => 36 | 127 => 207 | 3 => 3 | 5 => 5 | n => n, fun | n => n⟩
open Go.RowKit in
open Go.RowKit in
open Go.RowKit in
def Tryd.lays241_ren : Go.Shelf.Ren := ⟨fun | 241 => 141 | 277 => 151 | n => n, fun | 70 => 191 | 3 => 3 | 0 => 0 | 72 => 193 | 37 => 36 | 5 => 5 | n => n, fun | n => n⟩
open Go.RowKit in
def Tryd.lays165_ren : Go.Shelf.Ren := ⟨fun | 165 => 127 | 240 => 140 | 241 => 141 | 276 => 150 | 277 => 151 | n => n, fun | 70 => 191 | 3 => 3 | 0 => 0 | 4 => 4 | 9 => 9 | 20 => 20 | 72 => 193 | 37 => 36 | 164 => 208 | 5 => 5 | n => n, fun | n => n⟩
open Go.RowKit in
def Tryd.lays156_ren : Go.Shelf.Ren := ⟨fun | 156 => 96 | 165 => 127 | 166 => 128 | 169 => 129 | 240 => 140 | 241 => 141 | 276 => 150 | 277 => 151 | n => n, fun | 31 => 51 | 9 => 9 | 3 => 3 | 4 => 4 | 0 => 0 | 20 => 20 | 72 => 193 | 76 => 131 | 70 => 191 | 37 => 36 | 75 => 29 | 127 => 207 | 164 => 208 | 5 => 5 | 80 => 195 | n => n, fun | n => n⟩
open Go.RowKit in
open Go.RowKit in
def Tryd.lays128_ren : Go.Shelf.Ren := ⟨fun | 128 => 73 | n => n, fun | 51 => 24 | 3 => 3 | 4 => 4 | 46 => 40 | 5 => 5 | 9 => 9 | n => n, fun | n => n⟩
def Tryd.laysNm216_ren : Go.Shelf.Ren := ⟨fun | 16 => 94 | n => n, fun | 24 => 51 | 9 => 9 | 4 => 4 | n => n, fun | n => n⟩
open Go.RowKit Go.Lib in
open Go.RowKit Go.Lib in
open Go.RowKit Go.Lib in
def Tryd.lays115_ren : Go.Shelf.Ren := ⟨fun | 115 => 107 | n => n, fun | 37 => 36 | 4 => 4 | 9 => 9 | 5 => 5 | n => n, fun | n => n⟩
open Go.Proofs Go.RowKit Go.Lib in
def Tryd.laysSlK4_ren : Go.Shelf.Ren := ⟨fun | 4 => 74 | n => n, fun | 22 => 36 | 4 => 4 | 5 => 5 | n => n, fun | n => n⟩
open Go.RowKit Go.Lib in
open Go.RowKit Go.Lib in
def Tryd.laysSlE041_f94_ren : Go.Shelf.Ren := ⟨fun | 41 => 94 | n => n, fun | 22 => 51 | 23 => 9 | 4 => 4 | n => n, fun | n => n⟩
open Go.RowKit Go.Lib in
def Tryd.laysSlE041_f119_ren : Go.Shelf.Ren := ⟨fun | 41 => 119 | n => n, fun | 22 => 43 | 23 => 4 | 4 => 4 | n => n, fun | n => n⟩
open Go.RowKit Go.Lib in
open Go.RowKit Go.Lib in
open Go.RowKit Go.Lib in
def Tryd.laysnb115_ren : Go.Shelf.Ren := ⟨fun | 115 => 107 | n => n, fun | 37 => 36 | 4 => 4 | 9 => 9 | 5 => 5 | n => n, fun | n => n⟩
end Go.Proofs
