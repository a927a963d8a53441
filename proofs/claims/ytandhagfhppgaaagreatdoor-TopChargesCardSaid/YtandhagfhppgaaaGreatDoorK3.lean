/- Part 2 of a proof: contracts of the functions that the law reaches. No condition. -/
import Derived.Test.YtandhagfhppgaaaGreatDoorK1
import Derived.Test.YtandhagfhppgaaaGreatDoorK2
import Derived.Test.YtandhagfhppgaaaGreatDoorRows
set_option linter.all false
set_option maxRecDepth 100000
set_option maxHeartbeats 16000000
namespace Go.Proofs.YtandhagfhppgaaaGreatDoor
section
theorem closed:joinedFacts Tryz.prog 3 Tryz.f3 Rows.topChargesSpec Rows.topChargesRow=true:=by
 unfold joinedFacts;rw[YD,Vf,Vg,Vh,YE,YF,Vj];kernel_rfl
theorem fname:Tryz.prog.funcNamed Rows.topChargesRow.func=some 3:=by kernel_rfl
end
end Go.Proofs.YtandhagfhppgaaaGreatDoor
