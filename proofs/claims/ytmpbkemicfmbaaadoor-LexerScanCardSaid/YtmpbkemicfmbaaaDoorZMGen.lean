/- A walk goes on from any world of which it knows what it needs. -/
import Derived.Test.YtmpbkemicfmbaaaDoorZPXx0
namespace Go.Proofs.YtmpbkemicfmbaaaDoor.PX
open Go.RowKit
theorem wp_gen3 {c : Code} {a : Act} {w : World} {K : Exit → Act → World → Prop} (Q : World → Prop) (h : Q w) (h2 : ∀ w', Q w' → Code.wp Tryd.prog c K a w') : Code.wp Tryd.prog c K a w := h2 w h
end Go.Proofs.YtmpbkemicfmbaaaDoor.PX
