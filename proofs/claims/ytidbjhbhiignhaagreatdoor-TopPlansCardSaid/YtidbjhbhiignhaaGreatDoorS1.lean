import Derived.Test.YtidbjhbhiignhaaGreatDoorCards
import Derived.KernelRfl
set_option maxRecDepth 100000
set_option maxHeartbeats 4000000
set_option linter.all false
namespace Go.Proofs.YtidbjhbhiignhaaGreatDoor
open Go Tryz
def Ob(P:Program)(h:P.funcs.any Func.goes=false)(f:FuncId):P.goes f=false:=by unfold Program.goes;rw[h,Bool.and_false,Bool.or_false];rw[List.any_eq_false];intro b _;rw[Array.any_eq_false'] at h;cases hg:P.funcs[b]? with|none=>simp|some a=>obtain⟨a,rfl⟩:=Array.getElem?_eq_some_iff.1 hg;simpa using h _<|Array.getElem_mem a
def Gw(P:Program)(h:P.funcs.any Func.goes=false)(c:OpenClaim)(b:c.start=.entering):c.goesBy P=false:=by unfold OpenClaim.goesBy Program.goesAt Program.goesFrom;rw[b];cases P.funcNamed c.func with|none=>rfl|some a=>simp[Ob P h a]
def Oc:Tryz.checked.prog.funcs.any Func.goes=false:=by kernel_rfl
def Ur:Rows.topPlansCard.goes=Rows.topPlansCard.stood.row.goesBy Tryz.checked.prog:=(Gw _ Oc Rows.topPlansCard.stood.row rfl).symm
end Go.Proofs.YtidbjhbhiignhaaGreatDoor
