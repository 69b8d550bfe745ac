/- ParameterDependents answers true. -/
import Derived.Test.YtmkggcjajcdlcaaGreatDoorEZ15
set_option maxHeartbeats 100000000
set_option linter.all false
open Go.Proofs.Tryz
namespace Go.Proofs.YtmkggcjajcdlcaaGreatDoor
open Go.RowKit
section
open Go.ChangeShapes Go.WideShapes Go.ChangeAt Go.RowKit Go.Joins
open Go.ChangeMaps (open_string)
theorem js {l:Tb} (hw:K5 l) (s:ByteArray):aa Tryz.prog 6 [bF l,dS s] (.one (dB true)):=by
 obtain⟨n,rfl⟩:∃n,Bs n=s:=⟨_,Jy s⟩;show aa Tryz.prog _ [bF l,dL n] _;have hsz:=aS n;refine lR (aG func6 rfl rfl) fun hl0=>?_
 have c1:=ek l hw hl0;cases hb:AI l with
 |false=>
  rw[hb]at c1;refine kU func6 ?_;refine r6 ?_;exact ax
 |true=>
  rw[hb]at c1;obtain⟨hs,hl,_⟩:=jx hw hb
  by_cases h40:n.length > 40
  ·refine kU func6 ?_
   refine r6 ?_
   refine kO4 ?_
   refine kT ?_;exact ax
  have c2:=eH l (by omega);have c3:=j8 l n hs (by omega);have c4:=iQ l n hs (by omega);have hD:=zK l n;have c5:=g8 (gH l n) (by omega);generalize gH l n=D at *;refine kU func6 ?_;refine r6 ?_
  refine kO4 ?_
  refine kY ?_;refine kC (c2) ?_;refine kO ?_;refine kC (c3) ?_
  refine kO2 ?_
  refine kC (c4) ?_;refine kC (c5) ?_;exact ax
set_option maxRecDepth 100000 in
theorem ic (os:Os) (started:os.Started) (H:Type) (enc:TypeId × Value->H):
 ReturnsInHanded {} Tryz.checked os 6 .any (fun w args=>(Rows.parameterDependentsSpec.pre enc Tryz.prog Tryz.f6 [] false w args/\laidMetH Tryz.prog Rows.parameterDependentsRow.laid w)/\sizedMet enc Tryz.prog Tryz.f6 (OpenSpec.ofChange Rows.parameterDependentsSpec) false w args)
  (Rows.parameterDependentsSpec.post enc Tryz.prog Tryz.f6 false true false false):=by
 refine returnsInHanded_of_change_and (C:=Tryz.checked) (X:=fun w _=>laidMetH Tryz.prog Rows.parameterDependentsRow.laid w) (fun _ _ _ hh h=>h.of_heap hh) Tryz.own started (by kernel_rfl) func6
  (ChangeSpec.witness_shaped (enc:=enc) (C:=Tryz.checked) (os:=os) (X:=fun w _=>laidMetH Tryz.prog Rows.parameterDependentsRow.laid w) false (World.laidAll Tryz.prog os Rows.parameterDependentsRow.laid) #[.slice none 0 0, .string ByteArray.empty] 8 (World.laidAll_os _ _ _) (World.shaped_of_ZipB (by kernel_rfl) (by kernel_rfl)) (by kernel_rfl) (by kernel_rfl) (by kernel_rfl)
   (by rw[MakeChecks.laidMetH_plain _ _ _ (by kernel_rfl)];exact laidMet_laidAll _ (by kernel_rfl) (by kernel_rfl))) ?_
 intro W base args ds gs before hval0 hW _ _ hL _;have htab:dt (fun _=>False) W:=lN (by kernel_rfl) (by unfold Rows.parameterDependentsRow;simp) (by unfold Rows.parameterDependentsRow;simp) (by unfold Rows.parameterDependentsRow;simp) hL;have hval:∀(j:Nat) t v,Tryz.f6.params[j]? =some t->args[j]? =some v->Value.okWide Tryz.prog W .any base t v:=hval0;have hW':=hW;obtain⟨p,q,hA0,hV,rfl,hfz,hnd⟩:=hW;have hA:DataW.TrodAll enc Tryz.prog W 0 (fun _=>true) true Tryz.f6.params.toList args.toList ds p:=hA0;rw[params6]at hA hval;obtain⟨v0,v1,d0,d1,p0,p1,rfl,rfl,rfl,h0,h1⟩:=trodAll_two hA;obtain⟨x0,a0,w0⟩:=jt (hval 0 22 v0 rfl rfl) h0;obtain⟨x1,rfl,rfl,rfl,b1⟩:=open_string underlying9 (hval 1 9 v1 rfl rfl) h1
 refine(gU (js w0 x1) htab (vs:=[v0,_]) ⟨a0,AV.M.val rfl,trivial⟩).mono fun e W' ⟨he,hB⟩=>?_
 subst he
 exact⟨_,rfl,jq hW' rfl (by kernel_rfl) (by kernel_rfl) (fun ds hl=>by
  match ds,hl with
  | [_,_],_=>rfl) hB⟩
theorem ju {a b:Bool} (ha:a=true) (hb:b=true):(a && b)=true:=by rw[ha,hb];rfl
theorem im:joinedFacts Tryz.pinned.checked.prog 6 Tryz.f6 Rows.parameterDependentsSpec Rows.parameterDependentsRow=true:=by
 unfold joinedFacts
 repeat' with_reducible refine ju ?_ ?_
 all_goals as_aux_lemma=>kernel_rfl
theorem parameterDependents_holds:Rows.ParameterDependentsSaid:=
 OpenClaim.holds_of_wide 6 Tryz.f6 rfl rfl rfl rfl rfl rfl rfl ⟨rfl,rfl,rfl,rfl,rfl⟩ rfl rfl rfl rfl rfl (by kernel_rfl) func6 im
  (of_decide_eq_true (by kernel_rfl)) (by unfold Func.isWrapper;rw[if_neg (of_decide_eq_false (by kernel_rfl))];exact⟨rfl,rfl⟩)
  (fun os started H enc _=>ic os started H enc)
theorem parameterDependents_card:Rows.ParameterDependentsCardSaid:=
 Claim7.holds_tied_plain_at .later [] [.data, .data, .data, .data, .data] true (true, "bd1ed385b8fe58bcb80dfefc9852ab57aba966816f780e690fbe950f19441307") false
  parameterDependents_holds (fun _ h=>by cases h) (by as_aux_lemma=>kernel_rfl) (fun _ h=>by cases h) parameterDependents_row_tie rfl ⟨rfl,rfl⟩ (by as_aux_lemma=>kernel_rfl) rfl
  (fun f fn hf hfn=>by
   obtain rfl:f=6:=Option.some.inj ((show Tryz.prog.funcNamed "setsquare/setsquarelaw24.ParameterDependents" =some 6 by kernel_rfl).symm.trans hf) |>.symm;obtain rfl:fn=Tryz.f6:=(Option.some.inj (func6.symm.trans hfn)).symm
   exact⟨by as_aux_lemma=>kernel_rfl,fun j t ht=>by
    rw[params6]at ht;have hm:t∈[22,9]:=by simpa using Array.mem_of_getElem? ht
    have hall:([22,9].all fun u=>!Tryz.prog.wantsStandIn u)=true:=by kernel_rfl
    exact(show Tryz.prog.wantsStandIn t=false by simpa using List.all_eq_true.1 hall t hm)⟩)
  (by as_aux_lemma=>kernel_rfl)
end
end Go.Proofs.YtmkggcjajcdlcaaGreatDoor
