/-
  DERIVED. GIVEN WITH THE SEED: THE CARDS: each row of YtfhnpphceeoeeaaDoorRows.lean that lists a variable, with what it lists TIED to the program's text (the seventh form; the later family's looks); each row that meets fmt, with fmt's text TOLD by the authors' own Lean function (tested against real Go, not proved from fmt's source: count such statements apart). THE CARD IS WHAT COUNTS. Prove the row's statement (the work); the ties are given (YtfhnpphceeoeeaaDoorTie.lean); close each card by the builder's one call (the guide's Derived/Test/ToyasCard.lean, 'card_holds'). Laid BY PROGRAM, IN A SANDBOX (cutbox-door.mjs). By AI agents, Wed Nov 11 2026. No macro, syntax, notation, axiom, sorry.
-/
import Derived.Test.YtfhnpphceeoeeaaDoorRows
import GoSem.ClaimSeven
namespace Go.Proofs.YtfhnpphceeoeeaaDoor
namespace Rows

/-- THE TIED CARD OF 'tricklelaw43.FrameBodies'. -/
def frameBodiesCard : Claim7 := { stood := { row := frameBodiesRow, standIns := [], harness := (true, "46eb502508580123c119804d7dd9ded9a196f6723273f75e3d90fad31beec152"), looks := false }, kinds := [], alts := [], laidByText := true, laidKinds := [.data, .data, .data, .listed, .data], laidTests := true, laidLooks := .later }
def FrameBodiesCardSaid : Prop := Claim7.holds Tryd.pinned (.plain (OpenSpec.ofChange frameBodiesSpec)) frameBodiesCard

/-- THE TIED CARD OF 'tricklelaw43.FrameEncode'. -/
def frameEncodeCard : Claim7 := { stood := { row := frameEncodeRow, standIns := [], harness := (true, "46eb502508580123c119804d7dd9ded9a196f6723273f75e3d90fad31beec152"), looks := false }, kinds := [], alts := [], laidByText := true, laidKinds := [.data, .data, .data, .listed, .data], laidTests := true, laidLooks := .later }
def FrameEncodeCardSaid : Prop := Claim7.holds Tryd.pinned (.plain (OpenSpec.ofChange frameEncodeSpec)) frameEncodeCard

/-- THE TIED CARD OF 'tricklelaw43.FrameDecode'. -/
def frameDecodeCard : Claim7 := { stood := { row := frameDecodeRow, standIns := [], harness := (true, "46eb502508580123c119804d7dd9ded9a196f6723273f75e3d90fad31beec152"), looks := false }, kinds := [], alts := [], laidByText := true, laidKinds := [.data, .data, .data, .listed, .data], laidTests := true, laidLooks := .later }
def FrameDecodeCardSaid : Prop := Claim7.holds Tryd.pinned (.plain (OpenSpec.ofChange frameDecodeSpec)) frameDecodeCard

/-- THE TIED CARD OF 'tricklelaw43.FrameBurst'. -/
def frameBurstCard : Claim7 := { stood := { row := frameBurstRow, standIns := [], harness := (true, "46eb502508580123c119804d7dd9ded9a196f6723273f75e3d90fad31beec152"), looks := false }, kinds := [], alts := [], laidByText := true, laidKinds := [.data, .data, .data, .listed, .data], laidTests := true, laidLooks := .later }
def FrameBurstCardSaid : Prop := Claim7.holds Tryd.pinned (.plain (OpenSpec.ofChange frameBurstSpec)) frameBurstCard

/-- THE TIED CARD OF 'tricklelaw43.FrameAccess'. -/
def frameAccessCard : Claim7 := { stood := { row := frameAccessRow, standIns := [], harness := (true, "46eb502508580123c119804d7dd9ded9a196f6723273f75e3d90fad31beec152"), looks := false }, kinds := [], alts := [], laidByText := true, laidKinds := [.data, .data, .data, .listed, .data], laidTests := true, laidLooks := .later }
def FrameAccessCardSaid : Prop := Claim7.holds Tryd.pinned (.plain (OpenSpec.ofChange frameAccessSpec)) frameAccessCard

/-- THE TIED CARD OF 'tricklelaw43.FrameChunks'. -/
def frameChunksCard : Claim7 := { stood := { row := frameChunksRow, standIns := [], harness := (true, "46eb502508580123c119804d7dd9ded9a196f6723273f75e3d90fad31beec152"), looks := false }, kinds := [], alts := [], laidByText := true, laidKinds := [.data, .data, .data, .listed, .data], laidTests := true, laidLooks := .later }
def FrameChunksCardSaid : Prop := Claim7.holds Tryd.pinned (.plain (OpenSpec.ofChange frameChunksSpec)) frameChunksCard

/-- THE TIED CARD OF 'tricklelaw43.FrameNoAliasing'. -/
def frameNoAliasingCard : Claim7 := { stood := { row := frameNoAliasingRow, standIns := [], harness := (true, "46eb502508580123c119804d7dd9ded9a196f6723273f75e3d90fad31beec152"), looks := false }, kinds := [], alts := [], laidByText := true, laidKinds := [.data, .data, .data, .listed, .data], laidTests := true, laidLooks := .later }
def FrameNoAliasingCardSaid : Prop := Claim7.holds Tryd.pinned (.plain (OpenSpec.ofChange frameNoAliasingSpec)) frameNoAliasingCard

/-- THE TIED CARD OF 'tricklelaw43.FrameStream'. -/
def frameStreamCard : Claim7 := { stood := { row := frameStreamRow, standIns := [], harness := (true, "46eb502508580123c119804d7dd9ded9a196f6723273f75e3d90fad31beec152"), looks := false }, kinds := [], alts := [], laidByText := true, laidKinds := [.data, .data, .data, .listed, .data], laidTests := true, laidLooks := .later }
def FrameStreamCardSaid : Prop := Claim7.holds Tryd.pinned (.plain (OpenSpec.ofChange frameStreamSpec)) frameStreamCard

/-- THE SECOND FORM's CARD OF 'tricklelaw43.FrameBodies'. -/
def frameBodiesUptoCard : Claim7 := { stood := { row := frameBodiesUptoRow, standIns := [], harness := (true, "46eb502508580123c119804d7dd9ded9a196f6723273f75e3d90fad31beec152"), looks := false }, kinds := [], alts := [], laidByText := true, laidKinds := [.data, .data, .data, .listed, .data], laidTests := true, laidLooks := .later }
def FrameBodiesUptoCardSaid : Prop := Claim7.holds Tryd.pinned (.plain (OpenSpec.upto frameBodiesSpec)) frameBodiesUptoCard

/-- THE SECOND FORM's CARD OF 'tricklelaw43.FrameEncode'. -/
def frameEncodeUptoCard : Claim7 := { stood := { row := frameEncodeUptoRow, standIns := [], harness := (true, "46eb502508580123c119804d7dd9ded9a196f6723273f75e3d90fad31beec152"), looks := false }, kinds := [], alts := [], laidByText := true, laidKinds := [.data, .data, .data, .listed, .data], laidTests := true, laidLooks := .later }
def FrameEncodeUptoCardSaid : Prop := Claim7.holds Tryd.pinned (.plain (OpenSpec.upto frameEncodeSpec)) frameEncodeUptoCard

/-- THE SECOND FORM's CARD OF 'tricklelaw43.FrameDecode'. -/
def frameDecodeUptoCard : Claim7 := { stood := { row := frameDecodeUptoRow, standIns := [], harness := (true, "46eb502508580123c119804d7dd9ded9a196f6723273f75e3d90fad31beec152"), looks := false }, kinds := [], alts := [], laidByText := true, laidKinds := [.data, .data, .data, .listed, .data], laidTests := true, laidLooks := .later }
def FrameDecodeUptoCardSaid : Prop := Claim7.holds Tryd.pinned (.plain (OpenSpec.upto frameDecodeSpec)) frameDecodeUptoCard

/-- THE SECOND FORM's CARD OF 'tricklelaw43.FrameBurst'. -/
def frameBurstUptoCard : Claim7 := { stood := { row := frameBurstUptoRow, standIns := [], harness := (true, "46eb502508580123c119804d7dd9ded9a196f6723273f75e3d90fad31beec152"), looks := false }, kinds := [], alts := [], laidByText := true, laidKinds := [.data, .data, .data, .listed, .data], laidTests := true, laidLooks := .later }
def FrameBurstUptoCardSaid : Prop := Claim7.holds Tryd.pinned (.plain (OpenSpec.upto frameBurstSpec)) frameBurstUptoCard

/-- THE SECOND FORM's CARD OF 'tricklelaw43.FrameAccess'. -/
def frameAccessUptoCard : Claim7 := { stood := { row := frameAccessUptoRow, standIns := [], harness := (true, "46eb502508580123c119804d7dd9ded9a196f6723273f75e3d90fad31beec152"), looks := false }, kinds := [], alts := [], laidByText := true, laidKinds := [.data, .data, .data, .listed, .data], laidTests := true, laidLooks := .later }
def FrameAccessUptoCardSaid : Prop := Claim7.holds Tryd.pinned (.plain (OpenSpec.upto frameAccessSpec)) frameAccessUptoCard

/-- THE SECOND FORM's CARD OF 'tricklelaw43.FrameChunks'. -/
def frameChunksUptoCard : Claim7 := { stood := { row := frameChunksUptoRow, standIns := [], harness := (true, "46eb502508580123c119804d7dd9ded9a196f6723273f75e3d90fad31beec152"), looks := false }, kinds := [], alts := [], laidByText := true, laidKinds := [.data, .data, .data, .listed, .data], laidTests := true, laidLooks := .later }
def FrameChunksUptoCardSaid : Prop := Claim7.holds Tryd.pinned (.plain (OpenSpec.upto frameChunksSpec)) frameChunksUptoCard

/-- THE SECOND FORM's CARD OF 'tricklelaw43.FrameNoAliasing'. -/
def frameNoAliasingUptoCard : Claim7 := { stood := { row := frameNoAliasingUptoRow, standIns := [], harness := (true, "46eb502508580123c119804d7dd9ded9a196f6723273f75e3d90fad31beec152"), looks := false }, kinds := [], alts := [], laidByText := true, laidKinds := [.data, .data, .data, .listed, .data], laidTests := true, laidLooks := .later }
def FrameNoAliasingUptoCardSaid : Prop := Claim7.holds Tryd.pinned (.plain (OpenSpec.upto frameNoAliasingSpec)) frameNoAliasingUptoCard

/-- THE SECOND FORM's CARD OF 'tricklelaw43.FrameStream'. -/
def frameStreamUptoCard : Claim7 := { stood := { row := frameStreamUptoRow, standIns := [], harness := (true, "46eb502508580123c119804d7dd9ded9a196f6723273f75e3d90fad31beec152"), looks := false }, kinds := [], alts := [], laidByText := true, laidKinds := [.data, .data, .data, .listed, .data], laidTests := true, laidLooks := .later }
def FrameStreamUptoCardSaid : Prop := Claim7.holds Tryd.pinned (.plain (OpenSpec.upto frameStreamSpec)) frameStreamUptoCard
end Rows
end Go.Proofs.YtfhnpphceeoeeaaDoor
