/- Parts: MatE -/
import Derived.Test.YteojanlajhebhaaGreatDoorGs0
import Derived.Test.YteojanlajhebhaaGreatDoorGs28
import Derived.Test.YteojanlajhebhaaGreatDoorGs30
import Derived.Test.YteojanlajhebhaaGreatDoorGs9
set_option maxRecDepth 100000
set_option maxHeartbeats 12800000
namespace Go.Proofs.YteojanlajhebhaaGreatDoor
open Go.RowKit Go.Maps
theorem Rq {l:List jq} (h:QH l):∀y∈l,Hf uM y∧y.v.length≤9223372036854775807:=fun y hy=>by
 have:=h y hy;unfold maxLen at this;exact⟨VE ω ω,ω⟩
theorem Ji.cut {p:dU} (h:Ji p) (n:Nat):Ji (p.cut n):=
 ⟨fun r hr=>h.1 r (List.mem_of_mem_take hr),fun i hi=>h.2 i (List.mem_of_mem_take hi)⟩
theorem afT {q:dU} (h:Ji q):xE uM q:=⟨fun r hr=>Rq (h.1 r hr).2,fun i hi=>⟨Rq (h.2 i hi).1,Rq (h.2 i hi).2⟩⟩
theorem afS {q:dU} (h:Ji q):Bd MS q:=fun r hr y hy=>by
 have:=(h.1 r hr).2 y hy;unfold maxLen at this;exact acj ω ω
theorem acs {p:dU} (h:Ji p) {n:Nat}:xE uM (p.cut n):=afT (h.cut n)
theorem acp {p:dU} (h:Ji p) {n:Nat}:Bd MS (p.cut n):=afS (h.cut n)
end Go.Proofs.YteojanlajhebhaaGreatDoor
