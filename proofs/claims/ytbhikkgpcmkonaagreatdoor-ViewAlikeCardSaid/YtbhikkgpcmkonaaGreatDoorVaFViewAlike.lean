/- The closed facts of the row of ViewAlike, one by one. -/
import Derived.Test.YtbhikkgpcmkonaaGreatDoorVa0
import Derived.Test.YtbhikkgpcmkonaaGreatDoorChecked
import Derived.Test.YtbhikkgpcmkonaaGreatDoorRows
import Derived.JoinedCond
set_option maxRecDepth 100000
set_option maxHeartbeats 12800000
namespace Go.Proofs.YtbhikkgpcmkonaaGreatDoor
namespace CViewAlike
theorem awh {a b:Bool} (h:a = true) (k:b = true):(a &&b)=true:=by rw[h,k];rfl
theorem closed:joinedFacts Tryz.pinned.checked.prog 8 Tryz.f8 (OpenSpec.ofChange Rows.viewAlikeSpec).bare Rows.viewAlikeRow=true:=by
 unfold joinedFacts;repeat' (with_reducible refine awh ?_ ?_)
 all_goals as_aux_lemma=>kernel_rfl
end CViewAlike
end Go.Proofs.YtbhikkgpcmkonaaGreatDoor
