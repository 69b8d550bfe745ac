/- ParameterValues answers true. -/
import Derived.Test.YtmkggcjajcdlcaaGreatDoorEZ15
set_option maxHeartbeats 100000000
set_option linter.all false
open Go.Proofs.Tryz
namespace Go.Proofs.YtmkggcjajcdlcaaGreatDoor
open Go.RowKit
section
open Go.ChangeShapes Go.WideShapes Go.ChangeAt Go.RowKit Go.Joins
theorem mi {l:Tb} (hw:K5 l):aa Tryz.prog 9 [bF l] (.one (dB true)):=by
 refine lR (aG func9 rfl rfl) fun hl0=>?_
 have c1:=ek l hw hl0;cases hb:AI l with
 |false=>
  rw[hb]at c1;refine kU func9 ?_;refine r6 ?_;exact ax
 |true=>
 rw[hb]at c1;obtain⟨hs,hl,hV⟩:=jx hw hb;have c2:=eH l (by omega);have c3:=ko l hs (by omega) hV;have c4:=i6 l hs (by omega) hV;have cE0:=g8 [] (by decide);have cQ0:=lH [] (by decide) (fun x h=>by cases h);cases hv:qc l with
 |error e=>
  rw[hv]at c3 c4;unfold KY at c3 c4;dsimp only at c3 c4;refine kU func9 ?_;refine GW ?_;refine kG ?_
  refine kO2 ?_
  refine BY ?_;refine kQ (cE0) ?_;refine kQ (cQ0) ?_;refine aq Unit (fun _=>True) (fun _=>⟨[(47, .d (dN .i64 0)),(48, .d (dN .i64 0))],[]⟩) (fun _=>0) () trivial kw ?_;intro _ _;exact ax
 |ok env=>
 rw[hv]at c3 c4;unfold KY at c3 c4;dsimp only at c3 c4;obtain⟨hok,h0,hso,hky,hhv,hel⟩:=pV (fun h=>h.fx_of hs) hv;obtain⟨_,hel2,hsz⟩:=oJ hs hV hv;have cE:=g8 (env.map (·.1)) (by rw[List.length_map];omega);have cQ:=lH env (by omega) (fun x h=>(hsz x h).1);have hev:=fun p hp x hx=> @QO l (fun h=>h.fx_of hs) env hv p hp x hx
 rw[<- xt]at cE;refine kU func9 ?_;refine GW ?_;refine kW ?_;refine kQ (cE) ?_;refine kQ (cQ) ?_;refine aq Nat (fun i=>i<=env.length) (fun i=>⟨[(0, .d (bF l)),(3, .d (eU env)),(4, .d (eT env)),(46, .d (eU env)),(47, .d (dN .i64 env.length)),(48, .d (dN .i64 i))],[]⟩) (fun i=>env.length-i) 0 (Nat.zero_le _) kw ?_;intro i hi;refine kI ?_
 by_cases hil:i<env.length
 ·refine kT ?_
  obtain⟨x,hx⟩:∃x,env[i]? =some x:=⟨env[i],by simp[hil]⟩;have hxm:=List.mem_of_getElem? hx;obtain⟨p,hp,hpn⟩:=(hky x.1).1 ⟨x.2,hxm⟩;obtain⟨k,hk⟩:=List.getElem?_of_mem hp;have hkl:=(List.getElem?_eq_some_iff.1 hk).1;have cf:=gi l x.1 (by omega);rw[show gt l x.1=(k:Nat) by unfold gt;rw[<- hpn,hok.fd hk,if_pos hkl]]at cf;obtain⟨e1,e2,e3⟩:=Cb hs hok hp;have ce:=cC (l:=env) (by omega) hsz (ia p.2) e1 e2;rw[show dE (ia p.2)=dR p.2 from congrArg dR e3,hev p hp x.2 (by rw[hpn];exact hxm)]at ce;unfold cP at ce;dsimp only at ce;have cs:=Dp (p:=x.2.2) (hsz x hxm).1 (by decide);have hav:=C3 env i x hx;have hnx:= @DN env i x hx;obtain⟨o1,na1,xs1,nb1,ys1,nm1,n1,cs1,hA,hB⟩:=aM p
  have hat:∀(j:Nat) (a:AV),(a6 p.1 o1 na1 xs1 nb1 ys1 nm1 n1 cs1)[j]? =some a->(bR l)[k*8+j]? =some a:=fun j a h=>b6 l k p hk j a (by rw[hB];exact h)
  rw[show dR p.2= .agg (ab o1 na1 xs1 nb1 ys1 nm1 n1 cs1) from congrArg DV.agg hA]at ce;refine kW ?_;refine bB (i:=i) (cs':=[.val (vL x.1)]) hil hnx (Nat.zero_lt_succ 0) rfl rfl rfl rfl rfl rfl rfl rfl ?_;refine kW ?_;refine MA ?_;refine kQ (ce) ?_;refine bB (i:=i) (cs':=jS x.2.1 x.2.2) hil hav (Nat.zero_lt_succ 4) rfl rfl rfl rfl rfl rfl rfl rfl ?_;refine kO ?_;refine kC (cs) ?_;exact NE
 ·refine kE ?_
  exact ax
set_option maxRecDepth 100000 in
theorem jz (os:Os) (started:os.Started) (H:Type) (enc:TypeId × Value->H):
 ReturnsInHanded {} Tryz.checked os 9 .any (fun w args=>(Rows.parameterValuesSpec.pre enc Tryz.prog Tryz.f9 [] false w args/\laidMetH Tryz.prog Rows.parameterValuesRow.laid w)/\sizedMet enc Tryz.prog Tryz.f9 (OpenSpec.ofChange Rows.parameterValuesSpec) false w args)
  (Rows.parameterValuesSpec.post enc Tryz.prog Tryz.f9 false true false false):=by
 refine returnsInHanded_of_change_and (C:=Tryz.checked) (X:=fun w _=>laidMetH Tryz.prog Rows.parameterValuesRow.laid w) (fun _ _ _ hh h=>h.of_heap hh) Tryz.own started (by kernel_rfl) func9
  (ChangeSpec.witness_shaped (enc:=enc) (C:=Tryz.checked) (os:=os) (X:=fun w _=>laidMetH Tryz.prog Rows.parameterValuesRow.laid w) false (World.laidAll Tryz.prog os Rows.parameterValuesRow.laid) #[.slice none 0 0] 8 (World.laidAll_os _ _ _) (World.shaped_of_ZipB (by kernel_rfl) (by kernel_rfl)) (by kernel_rfl) (by kernel_rfl) (by kernel_rfl)
   (by rw[MakeChecks.laidMetH_plain _ _ _ (by kernel_rfl)];exact laidMet_laidAll _ (by kernel_rfl) (by kernel_rfl))) ?_
 intro W base args ds gs before hval0 hW _ _ hL _;have htab:dt (fun _=>False) W:=lN (by kernel_rfl) (by unfold Rows.parameterValuesRow;simp) (by unfold Rows.parameterValuesRow;simp) (by unfold Rows.parameterValuesRow;simp) hL;have hval:∀(j:Nat) t v,Tryz.f9.params[j]? =some t->args[j]? =some v->Value.okWide Tryz.prog W .any base t v:=hval0;have hW':=hW;obtain⟨p,q,hA0,hV,rfl,hfz,hnd⟩:=hW;have hA:DataW.TrodAll enc Tryz.prog W 0 (fun _=>true) true Tryz.f9.params.toList args.toList ds p:=hA0;rw[params9]at hA hval;obtain⟨v0,d0,rfl,rfl,h0⟩:=trodAll_one hA;obtain⟨x0,a0,w0⟩:=jt (hval 0 22 v0 rfl rfl) h0;refine(gU (mi w0) htab (vs:=[v0]) ⟨a0,trivial⟩).mono fun e W' ⟨he,hB⟩=>?_
 subst he
 exact⟨_,rfl,jq hW' rfl (by kernel_rfl) (by kernel_rfl) (fun ds hl=>by
  match ds,hl with
  | [_],_=>rfl) hB⟩
theorem mb {a b:Bool} (ha:a=true) (hb:b=true):(a && b)=true:=by rw[ha,hb];rfl
theorem jD:joinedFacts Tryz.pinned.checked.prog 9 Tryz.f9 Rows.parameterValuesSpec Rows.parameterValuesRow=true:=by
 unfold joinedFacts
 repeat' with_reducible refine mb ?_ ?_
 all_goals as_aux_lemma=>kernel_rfl
theorem parameterValues_holds:Rows.ParameterValuesSaid:=
 OpenClaim.holds_of_wide 9 Tryz.f9 rfl rfl rfl rfl rfl rfl rfl ⟨rfl,rfl,rfl,rfl,rfl⟩ rfl rfl rfl rfl rfl (by kernel_rfl) func9 jD
  (of_decide_eq_true (by kernel_rfl)) (by unfold Func.isWrapper;rw[if_neg (of_decide_eq_false (by kernel_rfl))];exact⟨rfl,rfl⟩)
  (fun os started H enc _=>jz os started H enc)
theorem parameterValues_card:Rows.ParameterValuesCardSaid:=
 Claim7.holds_tied_plain_at .later [] [.data, .data, .data, .data, .data] true (true, "bd1ed385b8fe58bcb80dfefc9852ab57aba966816f780e690fbe950f19441307") false
  parameterValues_holds (fun _ h=>by cases h) (by as_aux_lemma=>kernel_rfl) (fun _ h=>by cases h) parameterValues_row_tie rfl ⟨rfl,rfl⟩ (by as_aux_lemma=>kernel_rfl) rfl
  (fun f fn hf hfn=>by
   obtain rfl:f=9:=Option.some.inj ((show Tryz.prog.funcNamed "setsquare/setsquarelaw24.ParameterValues" =some 9 by kernel_rfl).symm.trans hf) |>.symm;obtain rfl:fn=Tryz.f9:=(Option.some.inj (func9.symm.trans hfn)).symm
   exact⟨by as_aux_lemma=>kernel_rfl,fun j t ht=>by
    rw[params9]at ht;have hm:t∈[22]:=by simpa using Array.mem_of_getElem? ht
    have hall:([22].all fun u=>!Tryz.prog.wantsStandIn u)=true:=by kernel_rfl
    exact(show Tryz.prog.wantsStandIn t=false by simpa using List.all_eq_true.1 hall t hm)⟩)
  (by as_aux_lemma=>kernel_rfl)
end
end Go.Proofs.YtmkggcjajcdlcaaGreatDoor
