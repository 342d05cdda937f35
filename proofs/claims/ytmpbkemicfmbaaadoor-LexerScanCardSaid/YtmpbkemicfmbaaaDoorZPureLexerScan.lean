/- LexerScan in plain words: both Scans give the same tokens, and Same holds. -/
import Derived.Test.YtmpbkemicfmbaaaDoorZLx4
import Derived.Test.YtmpbkemicfmbaaaDoorZPXx24
namespace Go.Proofs.YtmpbkemicfmbaaaDoor.Pure
open Go.RowKit Go.Proofs.YtmpbkemicfmbaaaDoor.PX Go.Proofs.YtmpbkemicfmbaaaDoorW.PrintWords Go.Proofs.YtmpbkemicfmbaaaDoorW.PrintLast
theorem LexerScan (s : ByteArray) (w : s.size ≤ 140737488351232) : ∃ k, tricklelaw15_LexerScan.f k s = some true := by
  refine Ev.rounds (Ev.congr (fun k => by rw [tricklelaw15_LexerScan.f]) (Ev.bind wakes15 (Ev.pos rfl ?_)))
  by_cases h : (s.size : Int) > 800
  · exact Ev.pos h (Ev.now _)
  have hs := bs_len s
  have hl := scan_le s
  refine Ev.neg h (Ev.bind (scan_ev s (by omega)) (Ev.bind (plain_ev _ (by omega)) (Ev.bind (rscan_ev s (by omega)) (Ev.bind (same_ev _ true (by rw [List.length_map]; omega)) (Ev.now _)))))
end Go.Proofs.YtmpbkemicfmbaaaDoor.Pure
