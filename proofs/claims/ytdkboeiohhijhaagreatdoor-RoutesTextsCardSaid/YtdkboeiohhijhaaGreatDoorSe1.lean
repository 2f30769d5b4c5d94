/- Runs of the program on the texts that it gives, carried out. No conditions. -/
import Derived.Test.YtdkboeiohhijhaaGreatDoorSspath
import Derived.Test.YtdkboeiohhijhaaGreatDoorSsdistance
import Derived.Test.YtdkboeiohhijhaaGreatDoorSsreach

namespace Go.Proofs.YtdkboeiohhijhaaGreatDoor
open Go Go.Ax
set_option maxRecDepth 100000
theorem hgb : ∀ (b : Nat) (v : AV), (Tr.leaf : Tr AV).find b = some v → v.bel 0 = true := fun _ _ h => by cases h
theorem allOk1 : AllOk env1 := allOk.memo hgb (.cons rScanpath (.cons rScandistance (.cons rScanreach .nil))) (by kernel_rfl) (by kernel_rfl) (by kernel_rfl)
end Go.Proofs.YtdkboeiohhijhaaGreatDoor
