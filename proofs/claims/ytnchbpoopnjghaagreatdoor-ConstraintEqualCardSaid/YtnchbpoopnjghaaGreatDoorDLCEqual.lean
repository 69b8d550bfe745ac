/- ConstraintEqual answers true. -/
import Derived.Test.YtnchbpoopnjghaaGreatDoorDZ15
set_option maxHeartbeats 100000000
set_option linter.all false
open Go.Proofs.Tryz
namespace Go.Proofs.YtnchbpoopnjghaaGreatDoor
open Go.RowKit
section
open Go.ChangeShapes Go.WideShapes Go.ChangeAt Go.RowKit Go.Joins
theorem tM:∀l:List Rx,jO l l=true
 | []=>rfl
 |x::r=>by rw[jO,Im,tM r];rfl
theorem IS (a:Cn):JL a a=true:=by
 unfold JL;rw[tM]
 simp
theorem ld {a b:Cn} (ha:Ng a) (hb:Ng b):aa Tryz.prog 10 [dC a,dC b] (.one (dB true)):=by
 refine Fu (av func10 rfl rfl) fun hl hm=>?_
 have c1:=f3 a ha hl.p hl.q hl.v;have c2:=f3 b hb hm.p hm.q hm.v
 have key:JC a=true->JC b=true->aa Tryz.prog 34 [dC a,dC b] (.one (dB (JL a b)))/\aa Tryz.prog 28 [dC a,dC b] (.one (dB (JL a b)))/\aa Tryz.prog 34 [dC a,dC a] (.one (dB true)):=fun h1 h2=>by
  have s1:=pS ha h1;have s2:=pS hb h2;have p1:=s1.p;have p2:=s1.q;have p3:=s1.v;have hf:∀x y,AF x->AF y->aa Tryz.prog 76 [dR x,dR y] (.one (dB (wC x y))):=fun x y hx hy=>yX x hx.lw y hy.lw
  refine⟨ru a b (by omega) (by omega) (by omega) fun x hx y hy=>hf x y (s1.x x hx) (s2.x y hy),uW a b (by omega) (by omega) (by omega) fun x hx y hy=>tp x (s1.x x hx).lw y (s2.x y hy).lw,?_⟩;have:=ru a a (by omega) (by omega) (by omega) fun x hx y hy=>hf x y (s1.x x hx) (s1.x y hy)
  rwa[IS]at this
 generalize JC a=z1 at *;generalize JC b=z2 at *;generalize JL a b=z at *;obtain⟨k,ps,cs,vs,s⟩:=a;obtain⟨k',ps',cs',vs',s'⟩:=b;have c1:aa Tryz.prog 16 [.agg (cC k ps cs vs s)] (.one (dB z1)):=c1;have c2:aa Tryz.prog 16 [.agg (cC k' ps' cs' vs' s')] (.one (dB z2)):=c2;show aa Tryz.prog _ [.agg (cC k ps cs vs s), .agg (cC k' ps' cs' vs' s')] _;cases z1 with
 |false=>
  refine kU func10 ?_;exact Jk
 |true=>
 cases z2 with
 |false=>
  refine kU func10 ?_;refine DO ?_;refine gG ?_;refine kC (c2) ?_;refine DO ?_;exact am
 |true=>
  obtain⟨e1,e2,e3⟩:=key rfl rfl;have e1:aa Tryz.prog 34 [.agg (cC k ps cs vs s), .agg (cC k' ps' cs' vs' s')] (.one (dB z)):=e1;have e2:aa Tryz.prog 28 [.agg (cC k ps cs vs s), .agg (cC k' ps' cs' vs' s')] (.one (dB z)):=e2;have e3:aa Tryz.prog 34 [.agg (cC k ps cs vs s), .agg (cC k ps cs vs s)] (.one (dB true)):=e3;cases z
  all_goals
   refine kV func10 ?_;refine kQ (f6) ?_;refine kQ (c1) ?_;refine kQ (c2) ?_;refine kQ (e1) ?_;refine kQ (e2) ?_;refine kC (e3) ?_;exact kF
set_option maxHeartbeats 100000000
set_option maxRecDepth 100000 in
theorem jd (os:Os) (started:os.Started) (H:Type) (enc:TypeId × Value->H):
 ReturnsInHanded {} Tryz.checked os 10 .any (fun w args=>(Rows.constraintEqualSpec.pre enc Tryz.prog Tryz.f10 [] false w args/\laidMetH Tryz.prog Rows.constraintEqualRow.laid w)/\sizedMet enc Tryz.prog Tryz.f10 (OpenSpec.ofChange Rows.constraintEqualSpec) false w args)
  (Rows.constraintEqualSpec.post enc Tryz.prog Tryz.f10 false true false false):=by
 refine eJ (C:=Tryz.checked) (X:=fun w _=>laidMetH Tryz.prog Rows.constraintEqualRow.laid w) (fun _ _ _ hh h=>h.of_heap hh) Tryz.own started (by kernel_rfl) func10
  (ChangeSpec.witness_shaped (enc:=enc) (C:=Tryz.checked) (os:=os) (X:=fun w _=>laidMetH Tryz.prog Rows.constraintEqualRow.laid w) false (World.laidAll Tryz.prog os Rows.constraintEqualRow.laid) #[.agg #[.int .i64 0, .slice none 0 0, .slice none 0 0, .slice none 0 0, .int .i64 0], .agg #[.int .i64 0, .slice none 0 0, .slice none 0 0, .slice none 0 0, .int .i64 0]] 8 (World.laidAll_os _ _ _) (World.shaped_of_ZipB (by kernel_rfl) (by kernel_rfl)) (by kernel_rfl) (by kernel_rfl) (by kernel_rfl)
   (by rw[MakeChecks.laidMetH_plain _ _ _ (by kernel_rfl)];exact laidMet_laidAll _ (by kernel_rfl) (by kernel_rfl))) ?_
 intro W base args ds gs before hval0 hW _ hsh hL _;have htab:cH (fun _=>False) W:=uK (by kernel_rfl) (by unfold Rows.constraintEqualRow;simp) (by unfold Rows.constraintEqualRow;simp) (by unfold Rows.constraintEqualRow;simp) (by unfold Rows.constraintEqualRow;simp) (by unfold Rows.constraintEqualRow;simp) (nX (by kernel_rfl) (by unfold Rows.constraintEqualRow;simp) (by unfold Rows.constraintEqualRow;simp) hsh hL) hL;have hval:∀(j:Nat) t v,Tryz.f10.params[j]? =some t->args[j]? =some v->Value.okWide Tryz.prog W .any base t v:=hval0;have hW':=hW;obtain⟨p,q,hA0,hV,rfl,hfz,hnd⟩:=hW;have hA:DataW.TrodAll enc Tryz.prog W 0 (fun _=>true) true Tryz.f10.params.toList args.toList ds p:=hA0;rw[params10]at hA hval;obtain⟨v0,v1,d0,d1,p0,p1,rfl,rfl,rfl,h0,h1⟩:=trodAll_two hA
 obtain⟨x0,a0,w0⟩:=km (hval 0 30 v0 rfl rfl) h0;obtain⟨x1,a1,w1⟩:=km (hval 1 30 v1 rfl rfl) h1;refine(nB (ld w0 w1) htab (vs:=[_,_]) ⟨a0,a1,trivial⟩).mono fun e W' ⟨he,hB⟩=>?_
 subst he
 exact⟨_,rfl,ri hW' rfl (by kernel_rfl) (by kernel_rfl) (fun ds hl=>by
  match ds,hl with
  | [_,_],_=>rfl) hB⟩
theorem lc {a b:Bool} (ha:a=true) (hb:b=true):(a && b)=true:=by rw[ha,hb];rfl
theorem ja:joinedFacts Tryz.pinned.checked.prog 10 Tryz.f10 Rows.constraintEqualSpec Rows.constraintEqualRow=true:=by
 unfold joinedFacts
 repeat' with_reducible refine lc ?_ ?_
 all_goals as_aux_lemma=>kernel_rfl
theorem constraintEqual_holds:Rows.ConstraintEqualSaid:=
 OpenClaim.holds_of_wide 10 Tryz.f10 rfl rfl rfl rfl rfl rfl rfl ⟨rfl,rfl,rfl,rfl,rfl⟩ rfl rfl rfl rfl rfl (by kernel_rfl) func10 ja
  (of_decide_eq_true (by kernel_rfl)) (by unfold Func.isWrapper;rw[if_neg (of_decide_eq_false (by kernel_rfl))];exact⟨rfl,rfl⟩)
  (fun os started H enc _=>jd os started H enc)
theorem constraintEqual_card:Rows.ConstraintEqualCardSaid:=
 Claim7.holds_tied_plain_at .later [] [.data, .data, .data, .data, .sentinel, .sentinel, .data, .data, .data, .data, .pinned] true (true, "25c86bd66589960307155246b8fe43c01520037888ea7c58eed9425ab0b3c4d4") true
  constraintEqual_holds (fun _ h=>by cases h) (by as_aux_lemma=>kernel_rfl) (fun _ h=>by cases h) constraintEqual_row_tie rfl ⟨rfl,rfl⟩ (by as_aux_lemma=>kernel_rfl) rfl
  (fun f fn hf hfn=>by
   obtain rfl:f=10:=Option.some.inj ((show Tryz.prog.funcNamed "setsquare/setsquarelaw25.ConstraintEqual" =some 10 by kernel_rfl).symm.trans hf) |>.symm;obtain rfl:fn=Tryz.f10:=(Option.some.inj (func10.symm.trans hfn)).symm
   exact⟨by as_aux_lemma=>kernel_rfl,fun j t ht=>by
    rw[params10]at ht;have hm:t∈[30]:=by simpa using Array.mem_of_getElem? ht
    have hall:([30].all fun u=>!Tryz.prog.wantsStandIn u)=true:=by kernel_rfl
    exact(show Tryz.prog.wantsStandIn t=false by simpa using List.all_eq_true.1 hall t hm)⟩)
  (by as_aux_lemma=>kernel_rfl)
end
end Go.Proofs.YtnchbpoopnjghaaGreatDoor
