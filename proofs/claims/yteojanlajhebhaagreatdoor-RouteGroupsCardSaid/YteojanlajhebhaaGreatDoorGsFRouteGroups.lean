/- The closed facts of the row of RouteGroups, one by one. -/
import Derived.Test.YteojanlajhebhaaGreatDoorGs0
import Derived.Test.YteojanlajhebhaaGreatDoorChecked
import Derived.Test.YteojanlajhebhaaGreatDoorRows
import Derived.JoinedCond
set_option maxRecDepth 100000
set_option maxHeartbeats 12800000
namespace Go.Proofs.YteojanlajhebhaaGreatDoor
namespace CRouteGroups
theorem atO {a b:Bool} (h:a = true) (k:b = true):(a &&b)=true:=by rw[h,k];rfl
theorem closed:joinedFacts Tryz.pinned.checked.prog 3 Tryz.f3 (OpenSpec.ofChange Rows.routeGroupsSpec).bare Rows.routeGroupsRow=true:=by
 unfold joinedFacts;repeat' (with_reducible refine atO ?_ ?_)
 all_goals as_aux_lemma=>kernel_rfl
end CRouteGroups
end Go.Proofs.YteojanlajhebhaaGreatDoor
