import Derived.Test.YtidbjhbhiignhaaGreatDoorTie
import Derived.JoinedCond
set_option maxRecDepth 100000
set_option maxHeartbeats 4000000
set_option linter.all false
namespace Go.Proofs.YtidbjhbhiignhaaGreatDoor
open Go Tryz
def Yn:(Rows.topPlansRow.inPlace==Tryz.prog.inPlace 3)=true:=by kernel_rfl
def Yo:(Rows.topPlansRow.unfollowed==Tryz.prog.unfollowed 3)=true:=by kernel_rfl
def Yp:(Rows.topPlansRow.recurses==Tryz.prog.recurses 3)=true:=by kernel_rfl
def Yq:(Rows.topPlansRow.named==Tryz.prog.varsNamed 3)=true:=by kernel_rfl
def Yr:(Rows.topPlansRow.plainKeys==Tryz.prog.plainKeys)=true:=by kernel_rfl
def Ys:mapsRowed Tryz.prog=true:=by kernel_rfl
def Dq:joinedFacts Tryz.prog 3 Tryz.f3 (OpenSpec.ofChange Rows.topPlansSpec).bare Rows.topPlansRow=true:=by unfold joinedFacts;rw[Yn,Yo,Yp,Yq,Yr,Ys];kernel_rfl
end Go.Proofs.YtidbjhbhiignhaaGreatDoor
