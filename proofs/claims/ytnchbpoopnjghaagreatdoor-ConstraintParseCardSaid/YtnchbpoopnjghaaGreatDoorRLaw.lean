/- The frame of every law: a call that answers true and only makes memory proves the given statement. -/
import Derived.Test.YtnchbpoopnjghaaGreatDoorRows
import Derived.Test.YtnchbpoopnjghaaGreatDoorRAwake
set_option maxHeartbeats 100000000
set_option linter.all false
open Go.Proofs.Tryz
namespace Go.Proofs.YtnchbpoopnjghaaGreatDoor
open Go.RowKit
section
open Go.ChangeShapes Go.WideShapes Go.ChangeAt Go.RowKit Go.Joins
def Tryz.own:ownKnob Tryz.prog.godebug=none:=by kernel_rfl
def Tryz.laidOut:laidOutB prog=true:=by kernel_rfl
section
variable {H:Type}{enc:TypeId × Value->H}
def FF{W k:World}(n:Below W.heap.size W k):
 ∀(a:List TypeId)(g:List Value)(f:List (DataW H))(e:List MemPlace),(∀t∈a,Tryz.prog.readableRec t=true/\t<Tryz.prog.types.size)->DataW.TrodAll enc prog W 0 (fun _=>true) true a g f e->(∀x∈e,x.block<W.heap.size) ->
  DataW.TrodAll enc prog k 0 (fun b=>decide (b<W.heap.size)) true a g f e:=by
 intro a;induction a with
 |nil=>intro g f e _ h _;obtain⟨rfl,rfl,rfl⟩:=trodAll_nil h;exact trodAll_mk0
 |cons t a q=>intro g f e i h c;obtain⟨v,s,d,l,p,u,rfl,rfl,rfl,h0,m⟩:=trodAll_cons h;exact trodAll_cons_mk (Below.trod Tryz.laidOut (i t S_).1 (i t S_).2 h0 n (fun x j=>c x (by simp[j]))) (q _ _ _ (fun r o=>i r (by simp[o])) m (fun x j=>c x (by simp[j])))
def JI{s:ChangeSpec}{a:Func}{W d:World}{args:Array Value}{ds k:List (DataW H)}{v:List MemPlace}(g:DataW.Whole enc prog a.params.toList s.vars false W args.toList ds k v)(j:s.vars=[])(n:a.resultTypes= #[4])(hrd:(a.params.toList.all fun t=>Tryz.prog.readableRec t && decide (t<Tryz.prog.types.size))=true)(o:∀ds:List (DataW H),ds.length=a.params.size->s.fn H (ds++[])={ results:=[.lit (.bool true)],args:=ds })(i:Below W.heap.size W d):
 s.post enc prog a false true false false W args (.bool true) d:=by
 have b:=g;obtain⟨p,q,e,f,rfl,l,_⟩:=g;have m:ds.length=a.params.size:=by rw[(trodAll_length e).2,Array.length_toList]
 rw[j]at f;obtain⟨rfl,rfl⟩:=trodVars_none f;have c:=o ds m;refine⟨ds,[],_,[],p,[],b,?_,?_,?_,i.frame _,fun h=>by cases h⟩
 ·rw[c,n];exact trodAll_mk1 (shut_bool underlying4 true)
 ·rw[c];exact FF i _ _ _ _ (fun t r=>by have:=I_.1 hrd t r;rw[B_]at this;exact⟨this.1,h_ this.2⟩) e (fun x u=>b.lt x (by simp[u]))
 ·rw[c,j];exact rfl
end
end
end Go.Proofs.YtnchbpoopnjghaaGreatDoor
