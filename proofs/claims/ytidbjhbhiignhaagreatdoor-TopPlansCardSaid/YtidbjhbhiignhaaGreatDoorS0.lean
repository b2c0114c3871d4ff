import Derived.Test.YtidbjhbhiignhaaGreatDoorTie
import Derived.JoinedCond
set_option maxRecDepth 100000
set_option maxHeartbeats 4000000
set_option linter.all false
namespace Go.Proofs.YtidbjhbhiignhaaGreatDoor
open Go Tryz
def KZ:laidOutB Tryz.prog=true:=by kernel_rfl
def Dq:joinedFacts Tryz.prog 3 Tryz.f3 (OpenSpec.ofChange Rows.topPlansSpec).bare Rows.topPlansRow=true:=by unfold joinedFacts;rw[KZ,Bool.and_true];simp only[Bool.and_eq_true];and_intros<;>as_aux_lemma=>kernel_rfl
end Go.Proofs.YtidbjhbhiignhaaGreatDoor
