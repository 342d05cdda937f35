/- The table strings.asciiSpace: what the row's condition on it gives the walks. -/
import Derived.Test.YtmpbkemicfmbaaaDoorRows
import Derived.Test.YtmpbkemicfmbaaaDoorZMGW
import Derived.LaidMore
import Derived.LaidSub
import Derived.Stop.Joined
import Derived.Lib.LaidTab
namespace Go.Proofs.YtmpbkemicfmbaaaDoor.PX
open Go.ChangeShapes Go.WideShapes Go.RowKit
open Go.Proofs.YtmpbkemicfmbaaaDoorW.PrintWords
set_option linter.unusedVariables false
theorem gSpace : Tryd.prog.globalNamed "strings.asciiSpace" = some 0 := by kernel_rfl
theorem tSpace : (Tryd.prog.globals[0]?).map (·.type) = some 67 := by kernel_rfl
theorem dSpace : (Rows.laid_strings_asciiSpace : DataW Unit) = Lib.tabData .u8 Lib.asciiSpaceTab := by kernel_rfl
set_option maxRecDepth 100000 in
theorem gw_of_laid {W : World} (h : laidMetH Tryd.prog [("unicode.White_Space", Rows.laid_unicode_White_Space), ("strings.asciiSpace", Rows.laid_strings_asciiSpace)] W) : GW W := by
  have h2 := h.filter (fun x => x.1 == "strings.asciiSpace")
  have h3 : laidMetH Tryd.prog [("strings.asciiSpace", Rows.laid_strings_asciiSpace)] W := h2
  rw [MakeChecks.laidMetH_plain _ _ _ (by kernel_rfl), dSpace] at h3
  exact ⟨Lib.tabIs_of_head gSpace tSpace Tryd.underlying67 Tryd.underlying5 (by kernel_rfl) (by kernel_rfl) h3⟩
end Go.Proofs.YtmpbkemicfmbaaaDoor.PX
