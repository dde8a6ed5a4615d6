/- A part of the walk. -/
import Derived.Test.YtijihlcdhppfgaaGreatDoorZCI
set_option maxHeartbeats 16000000
set_option maxRecDepth 100000
set_option linter.all false
namespace Go.Proofs.YtijihlcdhppfgaaGreatDoor
open Tryz
section
open Go.RowKit Go.Maps
def sO (p:aZ) (t:aH):Int:=cQ aF (bH p) (p.fns.map gI) t
end
end Go.Proofs.YtijihlcdhppfgaaGreatDoor
