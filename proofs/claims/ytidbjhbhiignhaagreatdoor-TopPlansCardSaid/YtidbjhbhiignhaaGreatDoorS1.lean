import Derived.Test.YtidbjhbhiignhaaGreatDoorCards
import Derived.Test.YtidbjhbhiignhaaGreatDoorTie
import Derived.LaidMore
set_option maxRecDepth 100000
set_option maxHeartbeats 4000000
set_option linter.all false
namespace Go.Proofs.YtidbjhbhiignhaaGreatDoor
open Go Tryz
def Ob(P:Program)(h:P.funcs.any Func.goes=false)(f:FuncId):P.goes f=false:=by unfold Program.goes;rw[h,Bool.and_false,Bool.or_false];rw[List.any_eq_false];intro b _;rw[Array.any_eq_false'] at h;cases hg:P.funcs[b]? with|none=>simp|some a=>obtain⟨a,rfl⟩:=Array.getElem?_eq_some_iff.1 hg;simpa using h _<|Array.getElem_mem a
def Gw(P:Program)(h:P.funcs.any Func.goes=false)(c:OpenClaim)(b:c.start=.entering):c.goesBy P=false:=by unfold OpenClaim.goesBy Program.goesAt Program.goesFrom;rw[b];cases P.funcNamed c.func with|none=>rfl|some a=>simp[Ob P h a]
def Oc:Tryz.checked.prog.funcs.any Func.goes=false:=by kernel_rfl
def Ur:Rows.topPlansCard.goes=Rows.topPlansCard.stood.row.goesBy Tryz.checked.prog:=(Gw _ Oc Rows.topPlansCard.stood.row rfl).symm
noncomputable def vm (b:Os):World:={World.doorLaid Tryz.prog 80 b with heap:=(World.doorLaid Tryz.prog 80 b).1.modify 2 λ| .cells _ c frozen=>.cells (Pinned.utf8FirstZ.map λ b=>Value.int .u8 (b:Nat)).toArray c frozen|a=>a}
def La:Array Value:=#[.slice none 0 0,.agg #[.int .i64 0,.int .i64 0,.int .i64 0,.string ⟨#[]⟩,.slice none 0 0,.slice none 0 0]]
noncomputable def uwM(os:Os):=((vm os).forCall (λ _ _=>0) ⟨#[],La,[]⟩).memory
def uwA os:(DataW.laidRun Tryz.prog (uwM os) 8 ((Rows.topPlansRow.laid.filter λ x=>x.2.handleName?.isNone).map (·.1))).map (λ x=>(x.1,nodupBits 257 x.2 0&&laidRowsB Tryz.prog (uwM os) x.2))=some ((Rows.topPlansRow.laid.filter λ x=>x.2.handleName?.isNone),true):=by kernel_rfl
def uwB os:funcsRun Tryz.prog (uwM os) 8 ((funcsListed Rows.topPlansRow.laid).map (·.1))=some ((funcsListed Rows.topPlansRow.laid).map (·.2.funcsOut)):=by kernel_rfl
def Sc os:laidMetH Tryz.prog Rows.topPlansRow.laid ((vm os).forCall (λ _ _=>0) ⟨#[],La,[]⟩).memory:=by have⟨x,h,e⟩:=Option.map_eq_some_iff.1 (uwA os);simp only[Prod.mk.injEq,Bool.and_eq_true] at e;exact laidMetH_of_parts3 (fuel:=8) (laidMet_of_run (ps:=x.2) 8 (by show DataW.laidRun _ (uwM os) _ _=_;rw[h,<-e.1]) (decide_eq_true (nodupBits_sound e.2.1).1) e.2.2) (by kernel_rfl) (uwB os)
def Xq os{a}(enc:TypeId×Value->a):∃a,DataW.whole enc Tryz.prog ((vm os).forCall (λ _ _=>0) ⟨#[],La,[]⟩).memory Tryz.f3.params.toList Rows.topPlansSpec.vars false La.toList 8=some ([.nil,.agg [.lit<|.int .i64 0,.lit<|.int .i64 0,.lit<|.int .i64 0,.lit<|.string [],.nil,.nil]],[],a):=⟨[],by kernel_rfl⟩
end Go.Proofs.YtidbjhbhiignhaaGreatDoor
