/- ParameterSet answers true. -/
import Derived.Test.YtmkggcjajcdlcaaGreatDoorEZ15
set_option maxHeartbeats 100000000
set_option linter.all false
open Go.Proofs.Tryz
namespace Go.Proofs.YtmkggcjajcdlcaaGreatDoor
open Go.RowKit
section
open Go.ChangeShapes Go.WideShapes Go.ChangeAt Go.RowKit Go.Joins
theorem pi {l:Tb} (hw:K5 l) {p:Pm} (hp:p.1.length<=9223372036854775807/\j0 p.2):aa Tryz.prog 4 [bF l,sW p] (.one (dB true)):=by
 refine lR (aG func4 rfl rfl) fun hl0=>?_
 have c1:=ek l hw hl0;have cp:=ek [p] (fun q hq=>by rw[List.mem_singleton.1 hq];exact hp) (by show 1<=9223372036854775807;decide);obtain⟨o1,na1,xs1,nb1,ys1,nm1,n1,cs1,hA,hB⟩:=aM p;have hdp:sW p= .agg (a6 p.1 o1 na1 xs1 nb1 ys1 nm1 n1 cs1):=congrArg DV.agg hB;rw[show bF [p]= .leaf (.sl 1 (a6 p.1 o1 na1 xs1 nb1 ys1 nm1 n1 cs1)) from congrArg (fun z=>DV.leaf (.sl 1 z)) ((oD p).trans hB)]at cp;cases hb:AI l with
 |false=>
  rw[hb]at c1;rw[hdp];refine kU func4 ?_;refine r6 ?_;exact ax
 |true=>
 rw[hb]at c1;cases hb2:AI [p]with
 |false=>
  rw[hb2]at cp;rw[hdp];refine kU func4 ?_;refine BE ?_;refine iY ?_;refine kC (cp) ?_;exact ax
 |true=>
 rw[hb2]at cp;obtain⟨hs,hl,_⟩:=jx hw hb;have hsp:=Ll hp hb2;have c2:=eH l (by omega);have c3:=nX l p hs hsp (by omega);have c4:=CS l p hs hsp (by omega);unfold CZ at c3 c4
 by_cases h0:(yC l p).2=0
 ·obtain⟨m,hm⟩:∃m,(yC l p).1=m:=⟨_,rfl⟩
  obtain⟨e1,e2,e3⟩:=PW (l:=l) (m:=m) (p:=p) (by rw[<- hm,<- h0]);have hml:=oC l p;rw[<- e1]at hml;have hsm:jP m:=by rw[e1];exact hs.set hsp
  rw[h0,hm]at c3 c4;have c5:=gS m hsm (by omega);have c6:=eH m (by omega);have c7:=ir m hsm (by omega);have c8:=nX m p hsm hsp (by omega);rw[e2]at c7;rw[e3]at c8;unfold CZ at c8;generalize(bf m).1=o at *;rw[hdp]at c3 c4 c8 ⊢;clear e1 e2 e3 hm h0 hb hb2;refine kU func4 ?_;refine BE ?_;refine iY ?_;refine kC (cp) ?_;refine Ff ?_;refine kW ?_;refine kQ (c5) ?_;refine kC (c6) ?_;refine kQ (c7) ?_;refine kC (c6) ?_;refine kO ?_;refine kQ (c8) ?_;refine kC (c5) ?_;exact ax
 ·have hm:(yC l p).1=[]:=by
   unfold yC at h0 ⊢
   split
   ·rename_i h;rw[if_pos h]at h0;exact absurd rfl h0
   ·rfl
  rw[hm]at c3 c4;have c5:=gS [] (fun q hq=>by cases hq) (by decide);generalize(yC l p).2=e at *;rw[hdp]at c3 c4 ⊢;refine kU func4 ?_;refine BE ?_;refine iY ?_;refine kC (cp) ?_;refine Ff ?_;refine kG ?_
  refine kO2 ?_
  refine BY ?_;refine kC (c5) ?_;refine kG ?_;refine kO ?_;refine xl ?_;exact ax
set_option maxRecDepth 100000 in
theorem ma (os:Os) (started:os.Started) (H:Type) (enc:TypeId × Value->H):
 ReturnsInHanded {} Tryz.checked os 4 .any (fun w args=>(Rows.parameterSetSpec.pre enc Tryz.prog Tryz.f4 [] false w args/\laidMetH Tryz.prog Rows.parameterSetRow.laid w)/\sizedMet enc Tryz.prog Tryz.f4 (OpenSpec.ofChange Rows.parameterSetSpec) false w args)
  (Rows.parameterSetSpec.post enc Tryz.prog Tryz.f4 false true false false):=by
 refine returnsInHanded_of_change_and (C:=Tryz.checked) (X:=fun w _=>laidMetH Tryz.prog Rows.parameterSetRow.laid w) (fun _ _ _ hh h=>h.of_heap hh) Tryz.own started (by kernel_rfl) func4
  (ChangeSpec.witness_shaped (enc:=enc) (C:=Tryz.checked) (os:=os) (X:=fun w _=>laidMetH Tryz.prog Rows.parameterSetRow.laid w) false (World.laidAll Tryz.prog os Rows.parameterSetRow.laid) #[.slice none 0 0, .agg #[.string ByteArray.empty, .int .i64 0, .bool false, .slice none 0 0, .bool false, .slice none 0 0, .string ByteArray.empty, .slice none 0 0]] 8 (World.laidAll_os _ _ _) (World.shaped_of_ZipB (by kernel_rfl) (by kernel_rfl)) (by kernel_rfl) (by kernel_rfl) (by kernel_rfl)
   (by rw[MakeChecks.laidMetH_plain _ _ _ (by kernel_rfl)];exact laidMet_laidAll _ (by kernel_rfl) (by kernel_rfl))) ?_
 intro W base args ds gs before hval0 hW _ _ hL _;have htab:dt (fun _=>False) W:=lN (by kernel_rfl) (by unfold Rows.parameterSetRow;simp) (by unfold Rows.parameterSetRow;simp) (by unfold Rows.parameterSetRow;simp) hL;have hval:∀(j:Nat) t v,Tryz.f4.params[j]? =some t->args[j]? =some v->Value.okWide Tryz.prog W .any base t v:=hval0;have hW':=hW;obtain⟨p,q,hA0,hV,rfl,hfz,hnd⟩:=hW;have hA:DataW.TrodAll enc Tryz.prog W 0 (fun _=>true) true Tryz.f4.params.toList args.toList ds p:=hA0;rw[params4]at hA hval;obtain⟨v0,v1,d0,d1,p0,p1,rfl,rfl,rfl,h0,h1⟩:=trodAll_two hA;obtain⟨x0,a0,w0⟩:=jt (hval 0 22 v0 rfl rfl) h0;obtain⟨x1,a1,w1⟩:=Cz (hval 1 43 v1 rfl rfl) h1;refine(gU (pi w0 w1) htab (vs:=[v0,v1]) ⟨a0,a1,trivial⟩).mono fun e W' ⟨he,hB⟩=>?_
 subst he
 exact⟨_,rfl,jq hW' rfl (by kernel_rfl) (by kernel_rfl) (fun ds hl=>by
  match ds,hl with
  | [_,_],_=>rfl) hB⟩
theorem pI {a b:Bool} (ha:a=true) (hb:b=true):(a && b)=true:=by rw[ha,hb];rfl
theorem md:joinedFacts Tryz.pinned.checked.prog 4 Tryz.f4 Rows.parameterSetSpec Rows.parameterSetRow=true:=by
 unfold joinedFacts
 repeat' with_reducible refine pI ?_ ?_
 all_goals as_aux_lemma=>kernel_rfl
theorem parameterSet_holds:Rows.ParameterSetSaid:=
 OpenClaim.holds_of_wide 4 Tryz.f4 rfl rfl rfl rfl rfl rfl rfl ⟨rfl,rfl,rfl,rfl,rfl⟩ rfl rfl rfl rfl rfl (by kernel_rfl) func4 md
  (of_decide_eq_true (by kernel_rfl)) (by unfold Func.isWrapper;rw[if_neg (of_decide_eq_false (by kernel_rfl))];exact⟨rfl,rfl⟩)
  (fun os started H enc _=>ma os started H enc)
theorem parameterSet_card:Rows.ParameterSetCardSaid:=
 Claim7.holds_tied_plain_at .later [] [.data, .data, .data, .data, .data] true (true, "bd1ed385b8fe58bcb80dfefc9852ab57aba966816f780e690fbe950f19441307") false
  parameterSet_holds (fun _ h=>by cases h) (by as_aux_lemma=>kernel_rfl) (fun _ h=>by cases h) parameterSet_row_tie rfl ⟨rfl,rfl⟩ (by as_aux_lemma=>kernel_rfl) rfl
  (fun f fn hf hfn=>by
   obtain rfl:f=4:=Option.some.inj ((show Tryz.prog.funcNamed "setsquare/setsquarelaw24.ParameterSet" =some 4 by kernel_rfl).symm.trans hf) |>.symm;obtain rfl:fn=Tryz.f4:=(Option.some.inj (func4.symm.trans hfn)).symm
   exact⟨by as_aux_lemma=>kernel_rfl,fun j t ht=>by
    rw[params4]at ht;have hm:t∈[22,43]:=by simpa using Array.mem_of_getElem? ht
    have hall:([22,43].all fun u=>!Tryz.prog.wantsStandIn u)=true:=by kernel_rfl
    exact(show Tryz.prog.wantsStandIn t=false by simpa using List.all_eq_true.1 hall t hm)⟩)
  (by as_aux_lemma=>kernel_rfl)
end
end Go.Proofs.YtmkggcjajcdlcaaGreatDoor
