/- Entries with nothing but the fields of their kind. -/
import Derived.Test.YtfmjeppajpiekaaGreatDoorEn
namespace Go.Proofs.YtfmjeppajpiekaaGreatDoor
/-- an alias with nothing but its own fields, and so on -/
def onlyA (e : En) : En := { En.zero with kind := e.kind, name := e.name, target := e.target }
def onlyC (e : En) : En := { En.zero with kind := e.kind, name := e.name, cat := e.cat }
def onlyP (e : En) : En := { En.zero with kind := e.kind, name := e.name, lev := e.lev, owner := e.owner }
def onlyN (e : En) : En := { En.zero with kind := e.kind, name := e.name }
def onlyD (e : En) : En := { En.zero with kind := e.kind, name := e.name, d0 := e.d0, d1 := e.d1, d2 := e.d2, d3 := e.d3, d4 := e.d4, d5 := e.d5, d6 := e.d6, d7 := e.d7, d8 := e.d8, d9 := e.d9, d10 := e.d10, d11 := e.d11, d12 := e.d12, d13 := e.d13, uq := e.uq, cls := e.cls, vol := e.vol, own := e.own, cr := e.cr, ex := e.ex, ar := e.ar, used := e.used }
end Go.Proofs.YtfmjeppajpiekaaGreatDoor
