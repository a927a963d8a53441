/- Part 3 of a proof: contracts of the functions that the law reaches. No condition. -/
import Derived.Test.YtandhagfhppgaaaGreatDoorS0
import Derived.Test.YtandhagfhppgaaaGreatDoorS1
import Derived.Test.YtandhagfhppgaaaGreatDoorS2
import Derived.Test.YtandhagfhppgaaaGreatDoorRows
set_option linter.all false
set_option maxRecDepth 100000
set_option maxHeartbeats 16000000
namespace Go.Proofs.YtandhagfhppgaaaGreatDoor
section
theorem SH:joinedFacts Tryz.prog 4 Tryz.f4 Rows.topSubmitsSpec Rows.topSubmitsRow=true:=by
 unfold joinedFacts;rw[YV,Vg,Vh,Vj,YW,YX,Vk];kernel_rfl
theorem UQ:Tryz.prog.funcNamed Rows.topSubmitsRow.func=some 4:=by kernel_rfl
end
end Go.Proofs.YtandhagfhppgaaaGreatDoor
