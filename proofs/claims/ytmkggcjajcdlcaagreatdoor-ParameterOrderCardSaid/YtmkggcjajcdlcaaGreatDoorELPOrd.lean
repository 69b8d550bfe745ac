/- ParameterOrder answers true. -/
import Derived.Test.YtmkggcjajcdlcaaGreatDoorEZ15
set_option maxHeartbeats 100000000
set_option linter.all false
open Go.Proofs.Tryz
namespace Go.Proofs.YtmkggcjajcdlcaaGreatDoor
open Go.RowKit
section
open Go.ChangeShapes Go.WideShapes Go.ChangeAt Go.RowKit Go.Joins
theorem depAfter {l:Tb} {o:List L8} (h:oI l o) {i:Nat} {n x:L8} (hi:o[i]? =some n) (hd:Bq l n x):∀j:Nat,o[j]? =some x->i<j:=by
 have inj:∀(a b:Nat) (z:L8),o[a]? =some z->o[b]? =some z->a=b:=fun a b z ha hb=>by
  have h1:=(List.getElem?_eq_some_iff.1 ha).1;exact(List.getElem?_inj h1 h.nd).1 (ha.trans hb.symm)
 induction hd with
 |base hp hn=>
  intro j hj;have:=h.up j _ _ hj hp rfl n hn;obtain⟨a,ha⟩:=List.getElem?_of_mem this;rw[List.getElem?_take]at ha
  split at ha
  ·have:=inj _ _ _ ha hi;omega
  ·cases ha
 |step hp hy _ ih=>
  intro j hj;have:=h.up j _ _ hj hp rfl _ hy;obtain⟨a,ha⟩:=List.getElem?_of_mem this;rw[List.getElem?_take]at ha
  split at ha
  ·have:=ih a ha;omega
  ·cases ha
theorem ord_behind {l:Tb} {i:Nat} {n y:L8} (hi:(bf l).1[i]? =some n) (hy:y∈gH l n):(i:Int)<(if(bf l).1.findIdx (fun x=>decide (y=x))<(bf l).1.length then(((bf l).1.findIdx fun x=>decide (y=x):Nat):Int)else -1):=by
 have h0:(bf l).2=0:=Classical.byContradiction fun h=>by rw[vy h]at hi;simp at hi
 obtain⟨o,ho⟩:∃o,(bf l).1=o:=⟨_,rfl⟩;obtain⟨hl,ht,hn⟩:=iH (l:=l) (o:=o) (by rw[<- ho,<- h0]);rw[ho]at hi ⊢;have hd:=Bk hy;obtain⟨p,hp,e⟩:=hd.mem;have hm:y∈o:=by rw[<- e];exact ht.all hn p hp
 have hf:=(List.findIdx_lt_length (p:=fun x=>decide (y=x)) (xs:=o)).2 ⟨y,hm,decide_eq_true rfl⟩;rw[if_pos hf];have hg:=of_decide_eq_true (List.findIdx_getElem (p:=fun x=>decide (y=x)) (xs:=o) (w:=hf));have:=depAfter ht hi hd _ (show o[o.findIdx fun x=>decide (y=x)]? =some y by rw[List.getElem?_eq_getElem hf,<- hg]);omega
theorem okl_ParameterOrder {l:Tb} (hw:K5 l):aa Tryz.prog 3 [bF l] (.one (dB true)):=by
 refine lR (aG func3 rfl rfl) fun hl0=>?_
 have c1:=ek l hw hl0;cases hb:AI l with
 |false=>
  rw[hb]at c1;refine kV func3 ?_;refine kQ (nO) ?_;refine kC (c1) ?_;exact kF
 |true=>
  rw[hb]at c1;obtain⟨hs,hl,_⟩:=jx hw hb;have c2:=eH l (by omega);have c3:=ir l hs (by omega);have c4:=gP l hs (by omega);have c5:=mJ l hs (by omega);have c6:=eJ l hs (by omega)
  have hol:(bf l).1.length<=l.length:=by
   by_cases h0:(bf l).2=0
   ·obtain⟨_,_,hn⟩:=iH (l:=l) (o:=(bf l).1) (by rw[<- h0])
    omega
   ·rw[vy h0];simp
  have c7:=g8 (bf l).1 (by omega);have c8:=fun n=>iQ l n hs (by omega)
  have c9:=fun n=>wK (bf l).1 n (by omega)
  have hlt:= @ord_behind l;have hDl:=zK l;generalize(bf l).1=o at *;generalize(bf l).2=z at *;generalize gC l=v at *;refine kV func3 ?_;refine kQ (nO) ?_;refine kQ (c1) ?_;refine kC (c2) ?_;refine kQ (c3) ?_;refine kQ (c4) ?_;refine kC (c2) ?_;refine kC (c5) ?_;refine kO ?_;refine kC (c6) ?_;refine kB false ?_ ?_
  ·exact bne_eq_false_iff_eq.2 rfl
  refine kO3 ?_
  refine kB false ?_ ?_
  ·exact bne_eq_false_iff_eq.2 rfl
  refine kW ?_;refine kQ (c7) ?_;refine aq Nat (fun i=>i<=o.length) (fun i=>⟨[(0, .d (bF l)),(3, .d (gM o)),(44, .d (gM o)),(45, .d (dN .i64 o.length)),(46, .d (dN .i64 i))],[]⟩) (fun i=>o.length-i) 0 (Nat.zero_le _) kw ?_;intro i hi;refine kI ?_
  by_cases hil:i<o.length
  ·refine kT ?_
   obtain⟨n,hn⟩:∃n,o[i]? =some n:=⟨o[i],by simp[hil]⟩;have c8:=c8 n;have hlt:= @hlt i n;have hDl:=hDl n;generalize gH l n=D at *;refine kW ?_;refine bB (i:=i) (cs':=[.val (vL n)]) hil (d4 hn) (Nat.zero_lt_succ 0) rfl rfl rfl rfl rfl rfl rfl rfl ?_;refine kW ?_;refine kQ (c8) ?_;refine aq Nat (fun k=>k<=D.length) (fun k=>⟨[(0, .d (bF l)),(3, .d (gM o)),(44, .d (gM o)),(45, .d (dN .i64 o.length)),(46, .d (dN .i64 i)),(7, .d (dN .i64 i)),(53, .d (gM D)),(54, .d (dN .i64 D.length)),(55, .d (dN .i64 k))],[]⟩) (fun k=>D.length-k) 0 (Nat.zero_le _) kw ?_;intro k hk;refine kI ?_
   by_cases hkl:k<D.length
   ·refine kT ?_
    obtain⟨y,hy⟩:∃y,D[k]? =some y:=⟨D[k],by simp[hkl]⟩;have c9:=c9 y;have hlt:= @hlt y hn (List.mem_of_getElem? hy);generalize(if o.findIdx (fun x=>decide (y=x))<o.length then((o.findIdx fun x=>decide (y=x):Nat):Int)else -1)=f at *;refine kW ?_;refine bB (i:=k) (cs':=[.val (vL y)]) hkl (d4 hy) (Nat.zero_lt_succ 0) rfl rfl rfl rfl rfl rfl rfl rfl ?_;refine kW ?_;refine kC (c9) ?_;refine kO ?_;refine kY ?_;exact⟨k+1,hkl,by omega,weak ⟨rfl,rfl,rfl,rfl,rfl,rfl,rfl,rfl,ae (by omega) (by omega),trivial⟩ trivial rfl⟩
   ·refine kE ?_
    refine kW ?_;exact⟨i+1,hil,by omega,weak ⟨rfl,rfl,rfl,rfl,ae (by omega) (by omega),trivial⟩ trivial rfl⟩
  ·refine kE ?_
   exact kF
set_option maxRecDepth 100000 in
theorem parameterOrder_lifted (os:Os) (started:os.Started) (H:Type) (enc:TypeId × Value->H):
 ReturnsInHanded {} Tryz.checked os 3 .any (fun w args=>(Rows.parameterOrderSpec.pre enc Tryz.prog Tryz.f3 [] false w args/\laidMetH Tryz.prog Rows.parameterOrderRow.laid w)/\sizedMet enc Tryz.prog Tryz.f3 (OpenSpec.ofChange Rows.parameterOrderSpec) false w args)
  (Rows.parameterOrderSpec.post enc Tryz.prog Tryz.f3 false true false false):=by
 refine returnsInHanded_of_change_and (C:=Tryz.checked) (X:=fun w _=>laidMetH Tryz.prog Rows.parameterOrderRow.laid w) (fun _ _ _ hh h=>h.of_heap hh) Tryz.own started (by kernel_rfl) func3
  (ChangeSpec.witness_shaped (enc:=enc) (C:=Tryz.checked) (os:=os) (X:=fun w _=>laidMetH Tryz.prog Rows.parameterOrderRow.laid w) false (World.laidAll Tryz.prog os Rows.parameterOrderRow.laid) #[.slice none 0 0] 8 (World.laidAll_os _ _ _) (World.shaped_of_ZipB (by kernel_rfl) (by kernel_rfl)) (by kernel_rfl) (by kernel_rfl) (by kernel_rfl)
   (by rw[MakeChecks.laidMetH_plain _ _ _ (by kernel_rfl)];exact laidMet_laidAll _ (by kernel_rfl) (by kernel_rfl))) ?_
 intro W base args ds gs before hval0 hW _ _ hL _;have htab:dt (fun _=>False) W:=lN (by kernel_rfl) (by unfold Rows.parameterOrderRow;simp) (by unfold Rows.parameterOrderRow;simp) (by unfold Rows.parameterOrderRow;simp) hL;have hval:∀(j:Nat) t v,Tryz.f3.params[j]? =some t->args[j]? =some v->Value.okWide Tryz.prog W .any base t v:=hval0;have hW':=hW;obtain⟨p,q,hA0,hV,rfl,hfz,hnd⟩:=hW;have hA:DataW.TrodAll enc Tryz.prog W 0 (fun _=>true) true Tryz.f3.params.toList args.toList ds p:=hA0;rw[params3]at hA hval;obtain⟨v0,d0,rfl,rfl,h0⟩:=trodAll_one hA;obtain⟨x0,a0,w0⟩:=jt (hval 0 22 v0 rfl rfl) h0;refine(gU (okl_ParameterOrder w0) htab (vs:=[v0]) ⟨a0,trivial⟩).mono fun e W' ⟨he,hB⟩=>?_
 subst he
 exact⟨_,rfl,jq hW' rfl (by kernel_rfl) (by kernel_rfl) (fun ds hl=>by
  match ds,hl with
  | [_],_=>rfl) hB⟩
theorem parameterOrder_and {a b:Bool} (ha:a=true) (hb:b=true):(a && b)=true:=by rw[ha,hb];rfl
theorem parameterOrder_joined:joinedFacts Tryz.pinned.checked.prog 3 Tryz.f3 Rows.parameterOrderSpec Rows.parameterOrderRow=true:=by
 unfold joinedFacts
 repeat' with_reducible refine parameterOrder_and ?_ ?_
 all_goals as_aux_lemma=>kernel_rfl
theorem parameterOrder_holds:Rows.ParameterOrderSaid:=
 OpenClaim.holds_of_wide 3 Tryz.f3 rfl rfl rfl rfl rfl rfl rfl ⟨rfl,rfl,rfl,rfl,rfl⟩ rfl rfl rfl rfl rfl (by kernel_rfl) func3 parameterOrder_joined
  (of_decide_eq_true (by kernel_rfl)) (by unfold Func.isWrapper;rw[if_neg (of_decide_eq_false (by kernel_rfl))];exact⟨rfl,rfl⟩)
  (fun os started H enc _=>parameterOrder_lifted os started H enc)
theorem parameterOrder_card:Rows.ParameterOrderCardSaid:=
 Claim7.holds_tied_plain_at .later [] [.data, .data, .data, .data, .data] true (true, "bd1ed385b8fe58bcb80dfefc9852ab57aba966816f780e690fbe950f19441307") false
  parameterOrder_holds (fun _ h=>by cases h) (by as_aux_lemma=>kernel_rfl) (fun _ h=>by cases h) parameterOrder_row_tie rfl ⟨rfl,rfl⟩ (by as_aux_lemma=>kernel_rfl) rfl
  (fun f fn hf hfn=>by
   obtain rfl:f=3:=Option.some.inj ((show Tryz.prog.funcNamed "setsquare/setsquarelaw24.ParameterOrder" =some 3 by kernel_rfl).symm.trans hf) |>.symm;obtain rfl:fn=Tryz.f3:=(Option.some.inj (func3.symm.trans hfn)).symm
   exact⟨by as_aux_lemma=>kernel_rfl,fun j t ht=>by
    rw[params3]at ht;have hm:t∈[22]:=by simpa using Array.mem_of_getElem? ht
    have hall:([22].all fun u=>!Tryz.prog.wantsStandIn u)=true:=by kernel_rfl
    exact(show Tryz.prog.wantsStandIn t=false by simpa using List.all_eq_true.1 hall t hm)⟩)
  (by as_aux_lemma=>kernel_rfl)
end
end Go.Proofs.YtmkggcjajcdlcaaGreatDoor
