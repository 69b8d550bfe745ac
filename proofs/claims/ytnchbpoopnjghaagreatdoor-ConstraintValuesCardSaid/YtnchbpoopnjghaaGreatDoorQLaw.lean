/- The frame of every law: a call that answers true and only makes memory proves the given statement. -/
import Derived.Test.YtnchbpoopnjghaaGreatDoorRows
import Derived.Test.YtnchbpoopnjghaaGreatDoorQAwake
set_option maxHeartbeats 100000000
set_option linter.all false
open Go.Proofs.Tryz
namespace Go.Proofs.YtnchbpoopnjghaaGreatDoor
open Go.RowKit
section
open Go.ChangeShapes Go.WideShapes Go.ChangeAt Go.RowKit Go.Joins
theorem Tryz.own:ownKnob Tryz.prog.godebug=none:=by kernel_rfl
theorem Tryz.laidOut:laidOutB Tryz.prog=true:=by kernel_rfl
section
variable {H:Type} {enc:TypeId × Value->H}
theorem GK {W W':World} (hb:Below W.heap.size W W'):
 ∀(ts:List TypeId) (vs:List Value) (ds:List (DataW H)) (ps:List MemPlace),(∀t∈ts,Tryz.prog.readableRec t=true/\t<Tryz.prog.types.size)->DataW.TrodAll enc Tryz.prog W 0 (fun _=>true) true ts vs ds ps->(∀x∈ps,x.block<W.heap.size) ->
  DataW.TrodAll enc Tryz.prog W' 0 (fun b=>decide (b<W.heap.size)) true ts vs ds ps:=by
 intro ts
 induction ts with
 |nil=>
  intro vs ds ps _ h _;obtain⟨rfl,rfl,rfl⟩:=trodAll_nil h;exact trodAll_mk0
 |cons t ts ih=>
  intro vs ds ps hr h hlt;obtain⟨v,vs',d,ds',p,p',rfl,rfl,rfl,h0,h1⟩:=trodAll_cons h;exact trodAll_cons_mk (Below.trod Tryz.laidOut (hr t S_).1 (hr t S_).2 h0 hb (fun x hx=>hlt x (by simp[hx]))) (ih _ _ _ (fun t' ht=>hr t' (by simp[ht])) h1 (fun x hx=>hlt x (by simp[hx])))
theorem JL {s:ChangeSpec} {fn:Func} {W W':World} {args:Array Value} {ds gs:List (DataW H)} {ps:List MemPlace}
 (hW:DataW.Whole enc Tryz.prog fn.params.toList s.vars false W args.toList ds gs ps) (hv:s.vars=[]) (hr:fn.resultTypes= #[4])
 (hrd:(fn.params.toList.all fun t=>Tryz.prog.readableRec t && decide (t<Tryz.prog.types.size))=true)
 (hs:∀ds:List (DataW H),ds.length=fn.params.size->s.fn H (ds++[])={ results:=[.lit (.bool true)],args:=ds }) (hb:Below W.heap.size W W'):
 s.post enc Tryz.prog fn false true false false W args (.bool true) W':=by
 have hW':=hW;obtain⟨p,q,hA,hV,rfl,hfz,_⟩:=hW;have hl:ds.length=fn.params.size:=by rw[(trodAll_length hA).2,Array.length_toList]
 rw[hv]at hV;obtain⟨rfl,rfl⟩:=trodVars_none hV;have e1:=hs ds hl;refine⟨ds,[],_,[],p,[],hW',?_,?_,?_,hb.frame _,fun h=>by cases h⟩
 ·rw[e1,hr]
  exact trodAll_mk1 (shut_bool underlying4 true)
 ·rw[e1]
  exact GK hb _ _ _ _ (fun t ht=>by have:=I_.1 hrd t ht;rw[B_]at this;exact⟨this.1,h_ this.2⟩) hA (fun x hx=>hW'.lt x (by simp[hx]))
 ·rw[e1,hv]
  exact rfl
end
end
end Go.Proofs.YtnchbpoopnjghaaGreatDoor
