/- ConstraintParse answers true. -/
import Derived.Test.YtnchbpoopnjghaaGreatDoorRZ10
set_option maxHeartbeats 100000000
set_option linter.all false
open Go.Proofs.Tryz
namespace Go.Proofs.YtnchbpoopnjghaaGreatDoor
open Go.RowKit
section
open Go.ChangeShapes Go.WideShapes Go.ChangeAt Go.RowKit Go.Joins
open Go.ChangeMaps (open_string)
def lY(s:ByteArray):aa prog 7 [dS s] (.one (dB true)):=by
 obtain⟨l,rfl⟩:∃l,Bs l=s:=⟨_,Pb s⟩;show aa prog _ [dL l] _;have hsz:=an l;by_cases h:l.length > 300
 ·refine PT ?_;refine kX ?_;refine kC ot ?_;exact am
 ·obtain⟨O,c1,c2,c3⟩:=BB l O_;cases O with
  |some C=>have c3:=c3 C rfl;obtain⟨k,b,a,d,c⟩:=C;have c1:aa prog 26 [dL l] (.tup [.agg (cC k b a d c),dN .i64 0]):=c1;have c2:aa prog 29 [dL l] (.tup [.agg (cC k b a d c),dN .i64 0]):=c2;have c3:aa prog 28 [.agg (cC k b a d c), .agg (cC k b a d c)] (.one (dB true)):=c3;exact NO
  |none=>
   have c3:aa prog 28 [.agg (cC 0 [] [] [] 0), .agg (cC 0 [] [] [] 0)] (.one (dB true)):=oh (oP 0) (oP 0) D_ D_ D_ fun x f=>by cases f
   have c1:aa prog 26 [dL l] (.tup [.agg (cC 0 [] [] [] 0),dN .i64 2]):=c1;have c2:aa prog 29 [dL l] (.tup [.agg (cC 0 [] [] [] 0),dN .i64 2]):=c2;exact NO
set_option maxHeartbeats 100000000
set_option maxRecDepth 100000 in
def jX(os:Os)(b:os.Started)(H:Type)(enc:TypeId × Value->H):
 ReturnsInHanded {} Tryz.checked os 7 .any (fun w a=>(Rows.constraintParseSpec.pre enc prog Tryz.f7 [] false w a/\laidMetH prog Rows.constraintParseRow.laid w)/\sizedMet enc prog Tryz.f7 (OpenSpec.ofChange Rows.constraintParseSpec) false w a)
  (Rows.constraintParseSpec.post enc prog Tryz.f7 false true false false):=by
 refine nW (C:=Tryz.checked) (X:=fun w _=>laidMetH prog Rows.constraintParseRow.laid w) (fun _ _ _ hh h=>h.of_heap hh) Tryz.own b (by kernel_rfl) func7
  (ChangeSpec.witness_shaped (enc:=enc) (C:=Tryz.checked) (os:=os) (X:=fun w _=>laidMetH prog Rows.constraintParseRow.laid w) false (World.laidAll prog os Rows.constraintParseRow.laid) #[.string ByteArray.empty] 8 (World.laidAll_os _ _ _) (World.shaped_of_ZipB (by kernel_rfl) (by kernel_rfl)) (by kernel_rfl) (by kernel_rfl) (by kernel_rfl)
   (by rw[MakeChecks.laidMetH_plain _ _ _ (by kernel_rfl)];exact laidMet_laidAll _ (by kernel_rfl) (by kernel_rfl))) ?_
 intro W f a k I i d s _ n r _;have g:db (fun _=>False) W:=Nt (by kernel_rfl) (by unfold Rows.constraintParseRow;simp) (by unfold Rows.constraintParseRow;simp) (by unfold Rows.constraintParseRow;simp) (by unfold Rows.constraintParseRow;simp) (by unfold Rows.constraintParseRow;simp) (FW (by kernel_rfl) (by unfold Rows.constraintParseRow;simp) (by unfold Rows.constraintParseRow;simp) n r) r;have c:∀(j:Nat)t v,Tryz.f7.params[j]? =some t->a[j]? =some v->Value.okWide prog W .any f t v:=d;have m:=s;obtain⟨p,q,l,J,rfl,y,A⟩:=s;have o:DataW.TrodAll enc prog W 0 (fun _=>true) true Tryz.f7.params.toList a.toList k p:=l;rw[params7]at o c;obtain⟨B,G,rfl,rfl,h0⟩:=trodAll_one o;obtain⟨D,rfl,rfl,rfl,F⟩:=open_string underlying9 (c 0 9 B rfl rfl) h0;refine(Fb (lY D) g (vs:=[_]) ⟨AV.M.val rfl,trivial⟩).mono fun e E⟨x,u⟩=>?_;subst x;exact⟨_,rfl,JI m rfl (by kernel_rfl) (by kernel_rfl) (fun k z=>by
  match k,z with
  | [_],_=>rfl) u⟩
def lW{a b:Bool}(c:a=true)(d:b=true):(a && b)=true:=by rw[c,d];rfl
def jp:joinedFacts Tryz.pinned.checked.prog 7 Tryz.f7 Rows.constraintParseSpec Rows.constraintParseRow=true:=by
 unfold joinedFacts
 repeat' with_reducible refine lW ?_ ?_
 all_goals as_aux_lemma=>kernel_rfl
theorem constraintParse_holds:Rows.ConstraintParseSaid:=
 OpenClaim.holds_of_wide 7 Tryz.f7 rfl rfl rfl rfl rfl rfl rfl ⟨rfl,rfl,rfl,rfl,rfl⟩ rfl rfl rfl rfl rfl (by kernel_rfl) func7 jp
  (h_ (by kernel_rfl)) (by unfold Func.isWrapper;rw[if_neg (of_decide_eq_false (by kernel_rfl))];exact⟨rfl,rfl⟩)
  (fun c a H b _=>jX c a H b)
theorem constraintParse_card:Rows.ConstraintParseCardSaid:=
 Claim7.holds_tied_plain_at .later [] [.data, .data, .data, .data, .sentinel, .sentinel, .data, .data, .data, .data, .pinned] true (true, "25c86bd66589960307155246b8fe43c01520037888ea7c58eed9425ab0b3c4d4") true
  constraintParse_holds (fun _ h=>by cases h) (by as_aux_lemma=>kernel_rfl) (fun _ h=>by cases h) constraintParse_row_tie rfl ⟨rfl,rfl⟩ (by as_aux_lemma=>kernel_rfl) rfl
  (fun f c d b=>by
   obtain rfl:f=7:=Option.some.inj ((show Tryz.prog.funcNamed "setsquare/setsquarelaw25.ConstraintParse" =some 7 by kernel_rfl).symm.trans d) |>.symm;obtain rfl:c=Tryz.f7:=(Option.some.inj (func7.symm.trans b)).symm;exact⟨by as_aux_lemma=>kernel_rfl,fun j t ht=>by
    rw[params7]at ht;have e:t∈[9]:=by simpa using Array.mem_of_getElem? ht
    have a:([9].all fun u=>!Tryz.prog.wantsStandIn u)=true:=by kernel_rfl
    exact(show Tryz.prog.wantsStandIn t=false by simpa using I_.1 a t e)⟩)
  (by as_aux_lemma=>kernel_rfl)
end
end Go.Proofs.YtnchbpoopnjghaaGreatDoor
