/- My own texts, packed: KJx. -/
import Derived.Test.YtgaihhimkodmmaaDoorM3
import Derived.WalkKit
import Derived.LaidEql
import Derived.Stop.Asserts
import Derived.RowKitTokens
/- Go's library: errors.Is, errors.As at sentinels; the numbers and places of errors (walks over this dump, by the kit's words). -/
namespace Go.Proofs.YtgaihhimkodmmaaDoor
open Go.RowKit Go.Extern.Stop Go.Stop Go.Extern
set_option linter.unusedSimpArgs false
set_option linter.unusedVariables false
/-! errors.As at a target **api.At. -/
open Go.Fy
/-- The sentinels of package api, and errors' own variable, as a row lists them. -/
structure Sents (cds : List Nat) (gl : Nat → Option AV) : Prop where
  hG0 : gl 0 = some (.err (.code 1))
  hG11 : gl 11 = some (.err (.code 2))
  hG12 : gl 12 = some (.err (.code 3))
  hG8 : gl 8 = some (.err (.code 4))
  hG1 : gl 1 = some (.err (.code 5))
  hG9 : gl 9 = some (.err (.code 6))
  hG4 : gl 4 = some (.err (.code 7))
  hG13 : gl 13 = some (.err (.code 8))
  hG3 : gl 3 = some (.err (.code 9))
  hG5 : gl 5 = some (.err (.code 10))
  hG6 : gl 6 = some (.err (.code 11))
  hG2 : gl 2 = some (.err (.code 12))
  hG15 : gl 15 = some (.err (.code 13))
  hG7 : gl 7 = some (.err (.code 14))
  hG16 : gl 16 = some (.err (.code 15))
  hG17 : gl 17 = some (.err (.code 16))
  hG18 : gl 18 = some (.err (.code 17))
  hG19 : gl 19 = some (.err (.code 18))
  hG20 : gl 20 = some (.err (.code 19))
  hG21 : gl 21 = some (.err (.code 20))
  hT : gl 14 = some (.val (.iface 225 (.agg #[.pointer (some ⟨23, 29, none⟩)])))
  all : ∀ d, 1 ≤ d → d ≤ 20 → d ∈ cds
section
variable {ea : Nat → Addr} {cds : List Nat} {gl : Nat → Option AV}
end
end Go.Proofs.YtgaihhimkodmmaaDoor
