/- ParameterUnaffected answers true. -/
import Derived.Test.YtmkggcjajcdlcaaGreatDoorVZ13
import Derived.Test.YtmkggcjajcdlcaaGreatDoorVZ14
set_option maxHeartbeats 100000000
set_option linter.all false
open Go.Proofs.Tryz
namespace Go.Proofs.YtmkggcjajcdlcaaGreatDoor
open Go.RowKit
section
open Go.ChangeShapes Go.WideShapes Go.ChangeAt Go.RowKit Go.Joins
theorem Dg {env env':EL} (h:env.map (·.1)=env'.map (·.1)) {i:Nat} {x:L8 × Rat × Int} (hx:env[i]? =some x):∃y,env'[i]? =some (x.1,y):=by
 have h2:(env'.map (·.1))[i]? =some x.1:=by rw[<- h,List.getElem?_map,hx];rfl
 rw[List.getElem?_map]at h2;cases hy:env'[i]? with
 |none=>rw[hy]at h2;cases h2
 |some y=>
  rw[hy]at h2;have h3:y.1=x.1:=Option.some.inj h2;exact⟨y.2,by rw[<- h3]⟩
theorem iO {l:Tb} (hw:Rj l) {p:Pm} (hp:p.1.length<=9223372036854775807/\jN p.2):aa Tryz.prog 8 [bX l,sv p] (.one (dB true)):=by
 refine JA (aJ func8 rfl rfl) fun hl0=>?_
 have c1:=mO l hw hl0;have cp:=mO [p] (fun q hq=>by rw[List.mem_singleton.1 hq];exact hp) (by show 1<=9223372036854775807;decide);obtain⟨o1,na1,xs1,nb1,ys1,nm1,n1,cs1,hA,hB⟩:=aX p;have hdp:sv p= .agg (bl p.1 o1 na1 xs1 nb1 ys1 nm1 n1 cs1):=congrArg DV.agg hB;rw[show bX [p]= .leaf (.sl 1 (bl p.1 o1 na1 xs1 nb1 ys1 nm1 n1 cs1)) from congrArg (fun z=>DV.leaf (.sl 1 z)) ((pU p).trans hB)]at cp;cases hb:Fk l with
 |false=>
  rw[hb]at c1;rw[hdp];refine Kn ?_;exact MO
 |true=>
 rw[hb]at c1;cases hb2:Fk [p]with
 |false=>
  rw[hb2]at cp;rw[hdp];refine Kn ?_;refine mb ?_;refine kC (cp) ?_;exact aD
 |true=>
 rw[hb2]at cp;obtain⟨hs,hl,hV⟩:=BR hw hb;have h8:l.length<=8∨200<l.length:=by have:=(Jb (fun p hp=>(hw p hp).2) hb).2.2.2;omega
 have hsp:=JC hp hb2;have cf:=mG l p.1 (by omega)
 by_cases hn:0<=gH l p.1
 case neg=>
  generalize gH l p.1=f at *;rw[hdp];refine Kn ?_;refine mb ?_;refine kQ (cp) ?_;refine kC (cf) ?_;refine kT ?_;exact aD
 have hfp:b5 l p.1<l.length:=by
  unfold gH at hn
  split at hn
  ·assumption
  ·omega
 have c2:=Bi l (by omega);have c3:=zc l p hs hsp (by omega);have c4:=zL l p hs hsp (by omega);have cV:=jL l hs (by omega) hV;have cD:=pg l p.1 hs (by omega);unfold FT at c3 c4
 by_cases h0:(zO l p).2=0
 case neg=>
  generalize(zO l p).1=m at *;generalize(zO l p).2=e at *;generalize gH l p.1=f at *;rw[hdp]at c3 c4 ⊢;clear cD;cases hv:wQ l with
  |error e1=>
   rw[hv]at cV;unfold Nj at cV;dsimp only at cV;refine Kn ?_;refine mb ?_;refine pp ?_;refine Ci ?_;refine kO ?_
   by_cases h1:e1=0
   ·refine kB false ?_ ?_
    ·exact bne_eq_false_iff_eq.2 h1
    refine kO2 ?_
    refine Q2 ?_;exact aD
   ·exact Tx
  |ok env=>
   rw[hv]at cV;unfold Nj at cV;dsimp only at cV;refine Kn ?_;refine mb ?_;refine pp ?_;refine Ci ?_
   refine kO4 ?_
   refine Q2 ?_;exact aD
 obtain⟨m,hm⟩:∃m,(zO l p).1=m:=⟨_,rfl⟩;obtain⟨e1,e2,e3⟩:=O5 (l:=l) (m:=m) (p:=p) (by rw[<- hm,<- h0]);have hml:=qj l p;rw[<- e1]at hml;have hsm:mg m:=by rw[e1];exact hs.set hsp
 rw[h0,hm]at c3 c4;have cL:=zg m hsm (by omega);cases hLt:FN m with
 |false=>
  rw[hLt]at cL;generalize gH l p.1=f at *;rw[hdp]at c3 c4 ⊢;clear cD e1 e2 e3;refine Kn ?_;refine mb ?_;refine pp ?_;refine kW ?_;refine kC (cL) ?_;exact aD
 |true=>
 rw[hLt]at cL;have hlm:m.length=l.length:=by rw[e1];unfold dP;rw[if_pos hfp];simp
 have hVm:(bI m).2=0->IF m:=fun h=>by
  rcases h8 with h8|h8
  ·exact IF.of hsm (Ir hLt) (by omega) h
  ·exfalso
   unfold bI ie at h;have h9:200<m.length:=by omega
   rw[if_pos h9,if_neg (by decide)]at h;cases h
 have cW:=jL m hsm (by omega) hVm;cases hv:wQ l with
 |error e1=>
  rw[hv]at cV;unfold Nj at cV;dsimp only at cV;clear cD cW;generalize gH l p.1=f at *;have hE:e1≠0:=z6 hv;rw[hdp]at c3 c4 ⊢;refine Kn ?_;refine mb ?_;refine lh ?_;refine kG ?_;refine kO ?_;refine kB true ?_ ?_
  ·exact bne_iff_ne.2 hE
  exact aD
 |ok env=>
 rw[hv]at cV;unfold Nj at cV;dsimp only at cV;cases hv2:wQ m with
 |error e1=>
  rw[hv2]at cW;unfold Nj at cW;dsimp only at cW;clear cD;generalize gH l p.1=f at *;have hE:e1≠0:=z6 hv2;rw[hdp]at c3 c4 ⊢;refine Kn ?_;refine mb ?_;refine lh ?_;refine kW ?_;refine kC (cW) ?_;refine kG ?_;refine kO ?_;refine kB true ?_ ?_
  ·exact bne_iff_ne.2 hE
  exact aD
 |ok env2=>
 rw[hv2]at cW;unfold Nj at cW;dsimp only at cW;obtain⟨hok,_,_,_,_,hel⟩:=AO (fun h=>h.fx_of hs) hv;obtain⟨_,hel2,hsz⟩:=CE hs hV hv;obtain⟨hks,hsame⟩:=Ou (fun h=>h.fx_of hs) (fun h=>h.fx_of hsm) hfp e1 hv hv2;have hlen:env2.length=env.length:=by have:=congrArg List.length hks;simpa using this.symm
 have cE:=nX (env.map (·.1)) (by rw[List.length_map];omega);rw[<- vm]at cE;rw[show gt env2=gt env by rw[vm,vm,hks]]at cW;have cD2:=cD (GV hok) hn;clear cD;have hmem:∀x,x∈DR l p.1↔wR l p.1 x:=fun x=>mX
 have hDl:(DR l p.1).length<=l.length:=by
  have h:=Gz l p.1
  rwa[show lj l p.1=DR l p.1 by unfold lj;rw[if_pos ⟨GV hok,hn⟩]]at h
 generalize DR l p.1=D at *;generalize gH l p.1=f at *;rw[hdp]at c3 c4 ⊢;clear e1 e2 e3 hm h0 hb hb2 hA hB hdp;cases D with
 |nil=>
  have cC:=fun x=>dX [p.1] x (by simp at hDl ⊢ <;>omega)
  have hch:∀z,z=au [p.1]->TV.d (.leaf (.sl (0+1) z))=TV.d (iZ [p.1]):=fun z hz=>by subst hz;unfold iZ;simp
  refine Lx ?_;refine u5 15002 (m1:=0) (m2:=1) ac (by decide) (by first|decide|(simp at hDl ⊢;omega)) rfl rfl rfl rfl rfl rfl rfl rfl rfl rfl (.nil rfl rfl) rfl rfl rfl rfl ?_;refine P9 ?_;refine bV ((a7 (q:=15) rfl rfl).tr (weak (s':=⟨[(7, .d (gt env)),(8, .d (ip env)),(12, .d (gt env)),(13, .d (ip env2)),(15, .d (iZ [p.1]))],[]⟩) ⟨rfl,rfl,rfl,rfl,hch _ (by first|rfl|exact BU _ _),trivial⟩ trivial rfl)) rfl ?_;refine Nr ?_;refine ay Nat (fun i=>i<=env.length) (fun i=>⟨[(8, .d (ip env)),(13, .d (ip env2)),(15, .d (iZ [p.1])),(103, .d (gt env)),(104, .d (dN .i64 env.length)),(105, .d (dN .i64 i))],[]⟩) (fun i=>env.length-i) 0 (Nat.zero_le _) kw ?_;intro i hi;refine kI ?_
  by_cases hil:i<env.length
  ·refine kT ?_
   obtain⟨x,hx⟩:∃x,env[i]? =some x:=⟨env[i],by simp[hil]⟩;have hxm:=List.mem_of_getElem? hx;obtain⟨y,hy⟩:=Dg hks hx;have hav:=qi env i x hx;have hav2:=qi env2 i _ hy;have hnx:= @BO env i x hx;have cx:=cC x.1;refine LG ?_
   by_cases hin:x.1∈[p.1]
   ·rw[decide_eq_true hin]at cx
    refine kC (cx) ?_;exact BG
   ·exact nt
  ·refine kE ?_
   exact aD
 |cons d D=>
  have cC:=fun x=>dX (List.cons d D++[p.1]) x (by simp at hDl ⊢ <;>omega)
  have hch:∀z,z=au (List.cons d D++[p.1])->TV.d (.leaf (.sl ((List.cons d D).length+1) z))=TV.d (iZ (List.cons d D++[p.1])):=fun z hz=>by subst hz;unfold iZ;simp
  refine Lx ?_;refine u5 15002 (m1:=(List.cons d D).length) (m2:=1) ac (by decide) (by first|decide|(simp at hDl ⊢;omega)) rfl rfl rfl rfl rfl rfl rfl rfl rfl rfl (.own rfl rfl) rfl rfl rfl rfl ?_;refine P9 ?_;refine bV ((a7 (q:=15) rfl rfl).tr (weak (s':=⟨[(7, .d (gt env)),(8, .d (ip env)),(12, .d (gt env)),(13, .d (ip env2)),(15, .d (iZ (List.cons d D++[p.1])))],[]⟩) ⟨rfl,rfl,rfl,rfl,hch _ (by first|rfl|exact BU _ _),trivial⟩ trivial rfl)) rfl ?_;refine Nr ?_;refine ay Nat (fun i=>i<=env.length) (fun i=>⟨[(8, .d (ip env)),(13, .d (ip env2)),(15, .d (iZ (List.cons d D++[p.1]))),(103, .d (gt env)),(104, .d (dN .i64 env.length)),(105, .d (dN .i64 i))],[]⟩) (fun i=>env.length-i) 0 (Nat.zero_le _) kw ?_;intro i hi;refine kI ?_
  by_cases hil:i<env.length
  ·refine kT ?_
   obtain⟨x,hx⟩:∃x,env[i]? =some x:=⟨env[i],by simp[hil]⟩;have hxm:=List.mem_of_getElem? hx;obtain⟨y,hy⟩:=Dg hks hx;have hav:=qi env i x hx;have hav2:=qi env2 i _ hy;have hnx:= @BO env i x hx;have cx:=cC x.1;refine LG ?_
   by_cases hin:x.1∈(List.cons d D++[p.1])
   ·rw[decide_eq_true hin]at cx
    refine kC (cx) ?_;exact BG
   ·exact nt
  ·refine kE ?_
   exact aD
set_option maxRecDepth 100000 in
theorem gI (os:Os) (started:os.Started) (H:Type) (enc:TypeId × Value->H):
 ReturnsInHanded {} Tryz.checked os 8 .any (fun w args=>(Rows.parameterUnaffectedSpec.pre enc Tryz.prog Tryz.f8 [] false w args/\laidMetH Tryz.prog Rows.parameterUnaffectedRow.laid w)/\sizedMet enc Tryz.prog Tryz.f8 (OpenSpec.ofChange Rows.parameterUnaffectedSpec) false w args)
  (Rows.parameterUnaffectedSpec.post enc Tryz.prog Tryz.f8 false true false false):=by
 refine returnsInHanded_of_change_and (C:=Tryz.checked) (X:=fun w _=>laidMetH Tryz.prog Rows.parameterUnaffectedRow.laid w) (fun _ _ _ hh h=>h.of_heap hh) Tryz.own started (by kernel_rfl) func8
  (ChangeSpec.witness_shaped (enc:=enc) (C:=Tryz.checked) (os:=os) (X:=fun w _=>laidMetH Tryz.prog Rows.parameterUnaffectedRow.laid w) false (World.laidAll Tryz.prog os Rows.parameterUnaffectedRow.laid) #[.slice none 0 0, .agg #[.string ByteArray.empty, .int .i64 0, .bool false, .slice none 0 0, .bool false, .slice none 0 0, .string ByteArray.empty, .slice none 0 0]] 8 (World.laidAll_os _ _ _) (World.shaped_of_ZipB (by kernel_rfl) (by kernel_rfl)) (by kernel_rfl) (by kernel_rfl) (by kernel_rfl)
   (by rw[MakeChecks.laidMetH_plain _ _ _ (by kernel_rfl)];exact laidMet_laidAll _ (by kernel_rfl) (by kernel_rfl))) ?_
 intro W base args ds gs before hval0 hW _ _ hL _;have htab:eD (fun _=>False) W:=Ke (by kernel_rfl) (by unfold Rows.parameterUnaffectedRow;simp) (by unfold Rows.parameterUnaffectedRow;simp) (by unfold Rows.parameterUnaffectedRow;simp) hL;have hval:∀(j:Nat) t v,Tryz.f8.params[j]? =some t->args[j]? =some v->Value.okWide Tryz.prog W .any base t v:=hval0;have hW':=hW;obtain⟨p,q,hA0,hV,rfl,hfz,hnd⟩:=hW;have hA:DataW.TrodAll enc Tryz.prog W 0 (fun _=>true) true Tryz.f8.params.toList args.toList ds p:=hA0;rw[params8]at hA hval;obtain⟨v0,v1,d0,d1,p0,p1,rfl,rfl,rfl,h0,h1⟩:=trodAll_two hA;obtain⟨x0,a0,w0⟩:=Fu (hval 0 22 v0 rfl rfl) h0;obtain⟨x1,a1,w1⟩:=zS (hval 1 43 v1 rfl rfl) h1;refine(EJ (iO w0 w1) htab (vs:=[v0,v1]) ⟨a0,a1,trivial⟩).mono fun e W' ⟨he,hB⟩=>?_
 subst he
 exact⟨_,rfl,I6 hW' rfl (by kernel_rfl) (by kernel_rfl) (fun ds hl=>by
  match ds,hl with
  | [_,_],_=>rfl) hB⟩
theorem iS {a b:Bool} (ha:a=true) (hb:b=true):(a && b)=true:=by rw[ha,hb];rfl
theorem gL:joinedFacts Tryz.pinned.checked.prog 8 Tryz.f8 Rows.parameterUnaffectedSpec Rows.parameterUnaffectedRow=true:=by
 unfold joinedFacts
 repeat' with_reducible refine iS ?_ ?_
 all_goals as_aux_lemma=>kernel_rfl
theorem parameterUnaffected_holds:Rows.ParameterUnaffectedSaid:=
 OpenClaim.holds_of_wide 8 Tryz.f8 rfl rfl rfl rfl rfl rfl rfl ⟨rfl,rfl,rfl,rfl,rfl⟩ rfl rfl rfl rfl rfl (by kernel_rfl) func8 gL
  (of_decide_eq_true (by kernel_rfl)) (by unfold Func.isWrapper;rw[if_neg (of_decide_eq_false (by kernel_rfl))];exact⟨rfl,rfl⟩)
  (fun os started H enc _=>gI os started H enc)
theorem parameterUnaffected_card:Rows.ParameterUnaffectedCardSaid:=
 Claim7.holds_tied_plain_at .later [] [.data, .data, .data, .data, .data] true (true, "bd1ed385b8fe58bcb80dfefc9852ab57aba966816f780e690fbe950f19441307") false
  parameterUnaffected_holds (fun _ h=>by cases h) (by as_aux_lemma=>kernel_rfl) (fun _ h=>by cases h) parameterUnaffected_row_tie rfl ⟨rfl,rfl⟩ (by as_aux_lemma=>kernel_rfl) rfl
  (fun f fn hf hfn=>by
   obtain rfl:f=8:=Option.some.inj ((show Tryz.prog.funcNamed "setsquare/setsquarelaw24.ParameterUnaffected" =some 8 by kernel_rfl).symm.trans hf) |>.symm;obtain rfl:fn=Tryz.f8:=(Option.some.inj (func8.symm.trans hfn)).symm
   exact⟨by as_aux_lemma=>kernel_rfl,fun j t ht=>by
    rw[params8]at ht;have hm:t∈[22,43]:=by simpa using Array.mem_of_getElem? ht
    have hall:([22,43].all fun u=>!Tryz.prog.wantsStandIn u)=true:=by kernel_rfl
    exact(show Tryz.prog.wantsStandIn t=false by simpa using List.all_eq_true.1 hall t hm)⟩)
  (by as_aux_lemma=>kernel_rfl)
end
end Go.Proofs.YtmkggcjajcdlcaaGreatDoor
