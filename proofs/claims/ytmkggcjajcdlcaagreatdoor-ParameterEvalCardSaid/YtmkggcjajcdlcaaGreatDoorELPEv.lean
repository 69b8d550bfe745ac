/- ParameterEval answers true. -/
import Derived.Test.YtmkggcjajcdlcaaGreatDoorEZ15
set_option maxHeartbeats 100000000
set_option linter.all false
open Go.Proofs.Tryz
namespace Go.Proofs.YtmkggcjajcdlcaaGreatDoor
open Go.RowKit
section
open Go.ChangeShapes Go.WideShapes Go.ChangeAt Go.RowKit Go.Joins
theorem evT_two {l:Tb} {x:Rx} (hs:jP l) (hx:pe x) (hV:(bf l).2=0->GN l):(∃(k:Nat) (y:Rat × Int),k<=2147483648/\cZ k y.1/\J0 l x= .tup [mx y.1 y.2,dN .i64 0])∨ ∃e:Int,J0 l x= .tup [vd,dN .i64 e]:=by
 unfold J0
 by_cases h0:qi x=0
 ·rw[if_pos h0]
  cases hv:qc l with
  |error e=>exact .inr ⟨e,rfl⟩
  |ok env=>
   obtain⟨hso,h2,h3⟩:=oJ hs hV hv;obtain⟨h4,h5,_⟩:=Db hx h0;dsimp only;cases he:bh (az env) (ia x)with
   |error e=>exact .inr ⟨e,rfl⟩
   |ok y=>
    have henv:j5 (az env):=fun s z h=>h3 _ ((tz hso).1 h)
    have:=eL henv h4 he;exact .inl ⟨iA (ia x),y,by omega,this.1,rfl⟩
 ·rw[if_neg h0]
  exact .inr ⟨_,rfl⟩
theorem okl_ParameterEval {l:Tb} (hw:K5 l) {x:Rx} (hx:j0 x):aa Tryz.prog 7 [bF l,dR x] (.one (dB true)):=by
 refine lR (aG func7 rfl rfl) fun hl0=>?_
 have c1:=ek l hw hl0;have cx:=oQ x hx;obtain⟨o1,na1,xs1,nb1,ys1,nm1,n1,cs1,hA⟩:=bz x;have hdx:dR x= .agg (ab o1 na1 xs1 nb1 ys1 nm1 n1 cs1):=congrArg DV.agg hA;cases hb:AI l with
 |false=>
  rw[hb]at c1;rw[hdx];refine kV func7 ?_;refine kQ (nO) ?_;refine kC (c1) ?_;exact kF
 |true=>
  rw[hb]at c1;cases hb2:(decide (pY x 120<=120) && mE x)with
  |false=>
   rw[hb2]at cx;rw[hdx]at cx ⊢;refine kV func7 ?_;refine kQ (nO) ?_;refine kQ (c1) ?_;refine kC (cx) ?_;exact kF
  |true=>
   rw[hb2]at cx;obtain⟨hs,hl,hV⟩:=jx hw hb;have hsx:=MI hx hb2;have c2:=eH l (by omega);have c3:=vt l x hs hsx (by omega) hV;have c4:=Am l x hs hsx (by omega) hV;have h2:=evT_two hs hsx hV;generalize J0 l x=R at *;rw[hdx]at cx c3 c4 ⊢;clear hdx hA hb2 hsx;rcases h2 with⟨k,y,h3,h4,rfl⟩| ⟨e,rfl⟩
   ·have c5:=Dp (p:=y.2) h4 h3
    refine kV func7 ?_;refine kQ (nO) ?_;refine kQ (c1) ?_;refine kQ (cx) ?_;refine kC (c2) ?_;refine kO ?_;refine kQ (c3) ?_;refine kQ (c4) ?_;refine kC (c5) ?_;exact kF
   ·refine kV func7 ?_;refine kQ (nO) ?_;refine kQ (c1) ?_;refine kQ (cx) ?_;refine kC (c2) ?_;refine kO ?_;refine kQ (c3) ?_;refine kC (c4) ?_;refine kG ?_
    refine kO2 ?_
    refine kB true ?_ ?_
    ·exact decide_eq_true rfl
    refine kW ?_;refine kC (Jk) ?_;exact kF
set_option maxRecDepth 100000 in
theorem parameterEval_lifted (os:Os) (started:os.Started) (H:Type) (enc:TypeId × Value->H):
 ReturnsInHanded {} Tryz.checked os 7 .any (fun w args=>(Rows.parameterEvalSpec.pre enc Tryz.prog Tryz.f7 [] false w args/\laidMetH Tryz.prog Rows.parameterEvalRow.laid w)/\sizedMet enc Tryz.prog Tryz.f7 (OpenSpec.ofChange Rows.parameterEvalSpec) false w args)
  (Rows.parameterEvalSpec.post enc Tryz.prog Tryz.f7 false true false false):=by
 refine returnsInHanded_of_change_and (C:=Tryz.checked) (X:=fun w _=>laidMetH Tryz.prog Rows.parameterEvalRow.laid w) (fun _ _ _ hh h=>h.of_heap hh) Tryz.own started (by kernel_rfl) func7
  (ChangeSpec.witness_shaped (enc:=enc) (C:=Tryz.checked) (os:=os) (X:=fun w _=>laidMetH Tryz.prog Rows.parameterEvalRow.laid w) false (World.laidAll Tryz.prog os Rows.parameterEvalRow.laid) #[.slice none 0 0, .agg #[.int .i64 0, .bool false, .slice none 0 0, .bool false, .slice none 0 0, .string ByteArray.empty, .slice none 0 0]] 8 (World.laidAll_os _ _ _) (World.shaped_of_ZipB (by kernel_rfl) (by kernel_rfl)) (by kernel_rfl) (by kernel_rfl) (by kernel_rfl)
   (by rw[MakeChecks.laidMetH_plain _ _ _ (by kernel_rfl)];exact laidMet_laidAll _ (by kernel_rfl) (by kernel_rfl))) ?_
 intro W base args ds gs before hval0 hW _ _ hL _;have htab:dt (fun _=>False) W:=lN (by kernel_rfl) (by unfold Rows.parameterEvalRow;simp) (by unfold Rows.parameterEvalRow;simp) (by unfold Rows.parameterEvalRow;simp) hL;have hval:∀(j:Nat) t v,Tryz.f7.params[j]? =some t->args[j]? =some v->Value.okWide Tryz.prog W .any base t v:=hval0;have hW':=hW;obtain⟨p,q,hA0,hV,rfl,hfz,hnd⟩:=hW;have hA:DataW.TrodAll enc Tryz.prog W 0 (fun _=>true) true Tryz.f7.params.toList args.toList ds p:=hA0;rw[params7]at hA hval;obtain⟨v0,v1,d0,d1,p0,p1,rfl,rfl,rfl,h0,h1⟩:=trodAll_two hA;obtain⟨x0,a0,w0⟩:=jt (hval 0 22 v0 rfl rfl) h0;obtain⟨x1,a1,w1⟩:=Gm (hval 1 41 v1 rfl rfl) h1;refine(gU (okl_ParameterEval w0 w1) htab (vs:=[v0,v1]) ⟨a0,a1,trivial⟩).mono fun e W' ⟨he,hB⟩=>?_
 subst he
 exact⟨_,rfl,jq hW' rfl (by kernel_rfl) (by kernel_rfl) (fun ds hl=>by
  match ds,hl with
  | [_,_],_=>rfl) hB⟩
theorem parameterEval_and {a b:Bool} (ha:a=true) (hb:b=true):(a && b)=true:=by rw[ha,hb];rfl
theorem parameterEval_joined:joinedFacts Tryz.pinned.checked.prog 7 Tryz.f7 Rows.parameterEvalSpec Rows.parameterEvalRow=true:=by
 unfold joinedFacts
 repeat' with_reducible refine parameterEval_and ?_ ?_
 all_goals as_aux_lemma=>kernel_rfl
theorem parameterEval_holds:Rows.ParameterEvalSaid:=
 OpenClaim.holds_of_wide 7 Tryz.f7 rfl rfl rfl rfl rfl rfl rfl ⟨rfl,rfl,rfl,rfl,rfl⟩ rfl rfl rfl rfl rfl (by kernel_rfl) func7 parameterEval_joined
  (of_decide_eq_true (by kernel_rfl)) (by unfold Func.isWrapper;rw[if_neg (of_decide_eq_false (by kernel_rfl))];exact⟨rfl,rfl⟩)
  (fun os started H enc _=>parameterEval_lifted os started H enc)
theorem parameterEval_card:Rows.ParameterEvalCardSaid:=
 Claim7.holds_tied_plain_at .later [] [.data, .data, .data, .data, .data] true (true, "bd1ed385b8fe58bcb80dfefc9852ab57aba966816f780e690fbe950f19441307") false
  parameterEval_holds (fun _ h=>by cases h) (by as_aux_lemma=>kernel_rfl) (fun _ h=>by cases h) parameterEval_row_tie rfl ⟨rfl,rfl⟩ (by as_aux_lemma=>kernel_rfl) rfl
  (fun f fn hf hfn=>by
   obtain rfl:f=7:=Option.some.inj ((show Tryz.prog.funcNamed "setsquare/setsquarelaw24.ParameterEval" =some 7 by kernel_rfl).symm.trans hf) |>.symm;obtain rfl:fn=Tryz.f7:=(Option.some.inj (func7.symm.trans hfn)).symm
   exact⟨by as_aux_lemma=>kernel_rfl,fun j t ht=>by
    rw[params7]at ht;have hm:t∈[22,41]:=by simpa using Array.mem_of_getElem? ht
    have hall:([22,41].all fun u=>!Tryz.prog.wantsStandIn u)=true:=by kernel_rfl
    exact(show Tryz.prog.wantsStandIn t=false by simpa using List.all_eq_true.1 hall t hm)⟩)
  (by as_aux_lemma=>kernel_rfl)
end
end Go.Proofs.YtmkggcjajcdlcaaGreatDoor
