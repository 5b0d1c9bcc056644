/- The closed facts of the row of ViewOnce, one by one. -/
import Derived.Test.YtbhikkgpcmkonaaGreatDoorVo0
import Derived.Test.YtbhikkgpcmkonaaGreatDoorChecked
import Derived.Test.YtbhikkgpcmkonaaGreatDoorRows
import Derived.JoinedCond
set_option maxRecDepth 100000
set_option maxHeartbeats 12800000
namespace Go.Proofs.YtbhikkgpcmkonaaGreatDoor
namespace CViewOnce
theorem axw {a b:Bool} (h:a = true) (k:b = true):(a &&b)=true:=by rw[h,k];rfl
theorem closed:joinedFacts Tryz.pinned.checked.prog 7 Tryz.f7 (OpenSpec.ofChange Rows.viewOnceSpec).bare Rows.viewOnceRow=true:=by
 unfold joinedFacts;repeat' (with_reducible refine axw ?_ ?_)
 all_goals as_aux_lemma=>kernel_rfl
end CViewOnce
end Go.Proofs.YtbhikkgpcmkonaaGreatDoor
