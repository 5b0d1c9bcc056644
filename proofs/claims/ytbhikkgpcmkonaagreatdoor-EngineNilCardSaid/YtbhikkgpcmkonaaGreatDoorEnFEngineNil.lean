/- The closed facts of the row of EngineNil, one by one. -/
import Derived.Test.YtbhikkgpcmkonaaGreatDoorEn0
import Derived.Test.YtbhikkgpcmkonaaGreatDoorChecked
import Derived.Test.YtbhikkgpcmkonaaGreatDoorRows
import Derived.JoinedCond
set_option maxRecDepth 100000
set_option maxHeartbeats 12800000
namespace Go.Proofs.YtbhikkgpcmkonaaGreatDoor
namespace CEngineNil
theorem aqN {a b:Bool} (h:a = true) (k:b = true):(a &&b)=true:=by rw[h,k];rfl
theorem closed:joinedFacts Tryz.pinned.checked.prog 4 Tryz.f4 (OpenSpec.ofChange Rows.engineNilSpec).bare Rows.engineNilRow=true:=by
 unfold joinedFacts;repeat' (with_reducible refine aqN ?_ ?_)
 all_goals as_aux_lemma=>kernel_rfl
end CEngineNil
end Go.Proofs.YtbhikkgpcmkonaaGreatDoor
