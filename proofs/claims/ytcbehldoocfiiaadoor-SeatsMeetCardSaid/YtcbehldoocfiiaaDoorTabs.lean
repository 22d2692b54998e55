/- The table of package math/bits that TrailingZeros64 reads, as a fact of a world, and that it stays where what lay has not turned. No condition. -/
import Derived.Test.YtcbehldoocfiiaaDoorWWords
import Derived.Lib.TrailingZeros
namespace Go.Proofs.YtcbehldoocfiiaaDoor
open Go.RowKit Go.Proofs.YtcbehldoocfiiaaDoorW.PrintWords

/-- math/bits.deBruijn64tab lies in its variable. -/
def Tab (w : World) : Prop := ∀ j, j < 64 → w.cell? ⟨0, j, none⟩ = some (.int .u8 ((Lib.deBruijn64tab.getD j 0 : Nat) : Int))

theorem tab_b {w W : World} (h : Tab w) (hb : Below w.heap.size w W) : Tab W := fun j hj => pw_cell_below hb (h j hj)

end Go.Proofs.YtcbehldoocfiiaaDoor
