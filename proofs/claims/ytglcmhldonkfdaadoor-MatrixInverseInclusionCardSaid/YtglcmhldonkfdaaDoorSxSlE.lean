/- Sx: rows: a row appended to nothing; a row held against nil. Own work. -/
import Derived.Test.YtglcmhldonkfdaaDoorSxSlD
set_option linter.unusedVariables false
namespace Go.Sx
open Go Go.RowKit
theorem But.mono {fp fp' : Nat → Prop} {w w' : World} (h : But fp w w') (hf : ∀ i, fp i → fp' i) : But fp' w w' :=
  ⟨h.os, h.tape, h.output, h.size, fun i hi hn => h.block i hi fun hx => hn (hf i hx)⟩
theorem RowAt.some {w : World} {sz n : Nat} {p : Option Addr} {xs : List Value} (h : RowAt w sz p n xs) (h0 : 0 < n) : ∃ a, p = some a := by
  rcases h.2 with h1 | ⟨b, off, e, _⟩
  · omega
  · exact ⟨_, e⟩
end Go.Sx
