/- ParameterRemove answers true. -/
import Derived.Test.YtmkggcjajcdlcaaGreatDoorEZ15
set_option maxHeartbeats 100000000
set_option linter.all false
open Go.Proofs.Tryz
namespace Go.Proofs.YtmkggcjajcdlcaaGreatDoor
open Go.RowKit
section
open Go.ChangeShapes Go.WideShapes Go.ChangeAt Go.RowKit Go.Joins
open Go.ChangeMaps (open_string)
theorem mc {l:Tb} (hw:K5 l) (s:ByteArray):aa Tryz.prog 10 [bF l,dS s] (.one (dB true)):=by
 obtain⟨n,rfl⟩:∃n,Bs n=s:=⟨_,Jy s⟩;show aa Tryz.prog _ [bF l,dL n] _;have hsz:=aS n;refine lR (aG func10 rfl rfl) fun hl0=>?_
 have c1:=ek l hw hl0;cases hb:AI l with
 |false=>
  rw[hb]at c1;refine kU func10 ?_;refine r6 ?_;exact ax
 |true=>
 rw[hb]at c1;obtain⟨hs,hl,hV⟩:=jx hw hb
 by_cases h40:n.length > 40
 ·refine kU func10 ?_
  refine r6 ?_
  refine kO4 ?_
  refine kT ?_;exact ax
 have c2:=eH l (by omega);have c3:=qF l n hs (by omega);have c4:=uT l n hs (by omega);have c5:=i6 l hs (by omega) hV;unfold CZ at c3 c4
 by_cases h0:(Bw l n).2=0
 case neg=>
  have hm:(Bw l n).1=[]:=by
   unfold Bw at h0 ⊢
   split
   ·rename_i h1
    rw[if_pos h1]at h0
    split
    ·rename_i h2
     rw[if_pos h2]at h0
     split
     ·rfl
     ·rename_i h3;rw[if_neg h3]at h0;exact absurd rfl h0
    ·rfl
   ·rfl
  rw[hm]at c3 c4;have c6:=gS [] (fun q hq=>by cases hq) (by decide);generalize(Bw l n).2=e at *
  have fin:∀(R:Except Int EL),aa Tryz.prog 37 [bF l] (KY R)->aa Tryz.prog 10 [bF l,dL n] (.one (dB true)):=fun R c5=>by
   cases R with
   |ok env=>
    exact Oc
   |error z=>
    exact Oc
  exact fin _ c5
 obtain⟨m,hm⟩:∃m,(Bw l n).1=m:=⟨_,rfl⟩;obtain⟨hok,p,hp,hpn,hme,hperm⟩:=QY (l:=l) (m:=m) (n:=n) (by rw[<- hm,<- h0]);rw[h0,hm]at c3 c4;have hpl:=List.mem_of_getElem? hp;have hml:m.length<=l.length:=by rw[hme];exact List.length_eraseIdx_le ..
 have hsm:jP m:=fun q hq=>hs q (by rw[hme]at hq;exact List.mem_of_mem_eraseIdx hq)
 have c6:=gS m hsm (by omega);cases hv:qc l with
 |error z=>
  have hz:=Ce hv;rw[hv]at c5;unfold KY at c5;dsimp only at c5;refine Pp ?_;refine kG ?_
  refine kO4 ?_
  refine kB true ?_ ?_
  ·exact bne_iff_ne.2 hz
  exact ax
 |ok env=>
 rw[hv]at c5;unfold KY at c5;dsimp only at c5;obtain⟨_,hel,hszv⟩:=oJ hs hV hv;have ho:(bf l).2=0:=(pV (fun h=>h.fx_of hs) hv).2.1;have c7:=eH m (by omega)
 have hst:yC m p=(dl m p,0):=by
  unfold yC;rw[wG hok hperm,if_pos ho]
 have c8:=nX m p hsm (hs p hpl) (by omega);rw[hst]at c8;unfold CZ at c8;dsimp only at c8;have hmk:jP (dl m p):=hsm.set (hs p hpl);have hkl:=oC m p
 have c9:=ko (dl m p) hmk (by omega) (fun _=>by
  have:=hV ho
  exact⟨hmk,by omega,fun a x h=>by
   have h1:=(pV (l:=dl m p) (fun h=>h.fx_of hmk) (by rw[Af hok hperm];exact hv));obtain⟨u,hu⟩:=(h1.2.2.2.1 a).2 h.mem;have:x=u:=h.fn h1.1 (h1.2.2.2.2.1 _ hu);rw[this];exact hszv _ hu⟩)
 rw[Af hok hperm,hv]at c9;unfold KY at c9;dsimp only at c9;have cQ:=lH env (by omega) (fun x h=>(hszv x h).1);have hkf:=(List.getElem?_eq_some_iff.1 hp).1;have cf:=gi l n (by omega);rw[show gt l n=(bX l n:Nat) by unfold gt;rw[if_pos hkf]]at cf;obtain⟨o1,na1,xs1,nb1,ys1,nm1,n1,cs1,hA,hB⟩:=aM p;have hat:∀(j:Nat) (a:AV),(a6 p.1 o1 na1 xs1 nb1 ys1 nm1 n1 cs1)[j]? =some a->(bR l)[bX l n*8+j]? =some a:=fun j a h=>b6 l _ p hp j a (by rw[hB];exact h)
 rw[show sW p= .agg (a6 p.1 o1 na1 xs1 nb1 ys1 nm1 n1 cs1) from congrArg DV.agg hB]at c8;generalize dl m p=m2 at *;generalize bX l n=k at *;refine Pp ?_;refine kW ?_;refine kC (c7) ?_
 refine kO3 ?_
 refine kC (cf) ?_;refine bB (i:=k) (cs':=a6 p.1 o1 na1 xs1 nb1 ys1 nm1 n1 cs1) hkf hat (Nat.zero_lt_succ 7) rfl rfl rfl rfl rfl rfl rfl rfl ?_;refine kO ?_;refine kQ (c8) ?_;refine kQ (c9) ?_;refine kC (cQ) ?_;exact ax
set_option maxRecDepth 100000 in
theorem jG (os:Os) (started:os.Started) (H:Type) (enc:TypeId × Value->H):
 ReturnsInHanded {} Tryz.checked os 10 .any (fun w args=>(Rows.parameterRemoveSpec.pre enc Tryz.prog Tryz.f10 [] false w args/\laidMetH Tryz.prog Rows.parameterRemoveRow.laid w)/\sizedMet enc Tryz.prog Tryz.f10 (OpenSpec.ofChange Rows.parameterRemoveSpec) false w args)
  (Rows.parameterRemoveSpec.post enc Tryz.prog Tryz.f10 false true false false):=by
 refine returnsInHanded_of_change_and (C:=Tryz.checked) (X:=fun w _=>laidMetH Tryz.prog Rows.parameterRemoveRow.laid w) (fun _ _ _ hh h=>h.of_heap hh) Tryz.own started (by kernel_rfl) func10
  (ChangeSpec.witness_shaped (enc:=enc) (C:=Tryz.checked) (os:=os) (X:=fun w _=>laidMetH Tryz.prog Rows.parameterRemoveRow.laid w) false (World.laidAll Tryz.prog os Rows.parameterRemoveRow.laid) #[.slice none 0 0, .string ByteArray.empty] 8 (World.laidAll_os _ _ _) (World.shaped_of_ZipB (by kernel_rfl) (by kernel_rfl)) (by kernel_rfl) (by kernel_rfl) (by kernel_rfl)
   (by rw[MakeChecks.laidMetH_plain _ _ _ (by kernel_rfl)];exact laidMet_laidAll _ (by kernel_rfl) (by kernel_rfl))) ?_
 intro W base args ds gs before hval0 hW _ _ hL _;have htab:dt (fun _=>False) W:=lN (by kernel_rfl) (by unfold Rows.parameterRemoveRow;simp) (by unfold Rows.parameterRemoveRow;simp) (by unfold Rows.parameterRemoveRow;simp) hL;have hval:∀(j:Nat) t v,Tryz.f10.params[j]? =some t->args[j]? =some v->Value.okWide Tryz.prog W .any base t v:=hval0;have hW':=hW;obtain⟨p,q,hA0,hV,rfl,hfz,hnd⟩:=hW;have hA:DataW.TrodAll enc Tryz.prog W 0 (fun _=>true) true Tryz.f10.params.toList args.toList ds p:=hA0;rw[params10]at hA hval;obtain⟨v0,v1,d0,d1,p0,p1,rfl,rfl,rfl,h0,h1⟩:=trodAll_two hA;obtain⟨x0,a0,w0⟩:=jt (hval 0 22 v0 rfl rfl) h0;obtain⟨x1,rfl,rfl,rfl,b1⟩:=open_string underlying9 (hval 1 9 v1 rfl rfl) h1
 refine(gU (mc w0 x1) htab (vs:=[v0,_]) ⟨a0,AV.M.val rfl,trivial⟩).mono fun e W' ⟨he,hB⟩=>?_
 subst he
 exact⟨_,rfl,jq hW' rfl (by kernel_rfl) (by kernel_rfl) (fun ds hl=>by
  match ds,hl with
  | [_,_],_=>rfl) hB⟩
theorem mh {a b:Bool} (ha:a=true) (hb:b=true):(a && b)=true:=by rw[ha,hb];rfl
theorem jK:joinedFacts Tryz.pinned.checked.prog 10 Tryz.f10 Rows.parameterRemoveSpec Rows.parameterRemoveRow=true:=by
 unfold joinedFacts
 repeat' with_reducible refine mh ?_ ?_
 all_goals as_aux_lemma=>kernel_rfl
theorem parameterRemove_holds:Rows.ParameterRemoveSaid:=
 OpenClaim.holds_of_wide 10 Tryz.f10 rfl rfl rfl rfl rfl rfl rfl ⟨rfl,rfl,rfl,rfl,rfl⟩ rfl rfl rfl rfl rfl (by kernel_rfl) func10 jK
  (of_decide_eq_true (by kernel_rfl)) (by unfold Func.isWrapper;rw[if_neg (of_decide_eq_false (by kernel_rfl))];exact⟨rfl,rfl⟩)
  (fun os started H enc _=>jG os started H enc)
theorem parameterRemove_card:Rows.ParameterRemoveCardSaid:=
 Claim7.holds_tied_plain_at .later [] [.data, .data, .data, .data, .data] true (true, "bd1ed385b8fe58bcb80dfefc9852ab57aba966816f780e690fbe950f19441307") false
  parameterRemove_holds (fun _ h=>by cases h) (by as_aux_lemma=>kernel_rfl) (fun _ h=>by cases h) parameterRemove_row_tie rfl ⟨rfl,rfl⟩ (by as_aux_lemma=>kernel_rfl) rfl
  (fun f fn hf hfn=>by
   obtain rfl:f=10:=Option.some.inj ((show Tryz.prog.funcNamed "setsquare/setsquarelaw24.ParameterRemove" =some 10 by kernel_rfl).symm.trans hf) |>.symm;obtain rfl:fn=Tryz.f10:=(Option.some.inj (func10.symm.trans hfn)).symm
   exact⟨by as_aux_lemma=>kernel_rfl,fun j t ht=>by
    rw[params10]at ht;have hm:t∈[22,9]:=by simpa using Array.mem_of_getElem? ht
    have hall:([22,9].all fun u=>!Tryz.prog.wantsStandIn u)=true:=by kernel_rfl
    exact(show Tryz.prog.wantsStandIn t=false by simpa using List.all_eq_true.1 hall t hm)⟩)
  (by as_aux_lemma=>kernel_rfl)
end
end Go.Proofs.YtmkggcjajcdlcaaGreatDoor
