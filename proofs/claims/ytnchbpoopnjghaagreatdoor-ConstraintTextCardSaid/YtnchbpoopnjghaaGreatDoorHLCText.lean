/- ConstraintText answers true. -/
import Derived.Test.YtnchbpoopnjghaaGreatDoorHZ16
set_option maxHeartbeats 100000000
set_option linter.all false
open Go.Proofs.Tryz
namespace Go.Proofs.YtnchbpoopnjghaaGreatDoor
open Go.RowKit
section
open Go.ChangeShapes Go.WideShapes Go.ChangeAt Go.RowKit Go.Joins
theorem rl:∀l:List Rx,rA l l=true
 | []=>rfl
 |x::r=>by rw[rA,JY,rl r];rfl
theorem Nc {e:Ex} (hf:f4 e) (hd:pO (rx e)<=40) (hl:(aH e 0).length<=65536):M2 (aH e 0)= .ok e:=by
 obtain⟨T,h1,_,h3⟩:=yT hf hd hl;unfold M2;rw[h1];exact h3
theorem IQ {c:Cn} (hs:RJ c) (hv:De c 200 200=true):∃t,aa Tryz.prog 25 [dC c] (.tup [dL t,dN .i64 0])/\aa Tryz.prog 27 [dC c] (.one (dL t))/\aa Tryz.prog 26 [dL t] (.tup [dC c,dN .i64 0]):=by
 obtain⟨r,h⟩:=vZ.1 hv;have hx:∀x∈c.vs,∃e,x=rx e/\f4 e:=fun x hx=>BV (hs.x x hx).wd (hs.x x hx).lm (h.v x hx)
 obtain⟨g,hg⟩:∃g:Rx->Ex,∀x∈c.vs,x=rx (g x)/\f4 (g x):=by
  classical
  refine⟨fun x=>if hh:∃e,x=rx e/\f4 e then hh.choose else .nam [],fun x hm=>?_⟩;have hh:=hx x hm
  simp only[dif_pos hh]
  exact hh.choose_spec
 have hdp:∀x∈c.vs,pO x<=40:=fun x hm=>by
  have:=h.v x hm;unfold iI at this
  split at this
  ·split at this
   ·assumption
   ·cases this
  ·cases this
 have hes:c.vs=(c.vs.map g).map rx:=by
  rw[List.map_map]
  conv=>lhs;rw[<- List.map_id c.vs]
  exact List.map_congr_left fun x hm=>(hg x hm).1
 have htx:c.vs.map (fun x=>aH (g x) 0)=(c.vs.map g).map fun e=>aH e 0:=by rw[List.map_map];rfl
 have hall:∀x∈c.vs,aa Tryz.prog 63 [dR x] (.tup [dL (aH (g x) 0),dN .i64 0])/\aa Tryz.prog 35 [dL (aH (g x) 0)] (.tup [dE (g x),dN .i64 0,dN .i64 0])/\aa Tryz.prog 68 [dR x] (.one (dL (aH (g x) 0)))/\M2 (aH (g x) 0)= .ok (g x)/\(aH (g x) 0).length<=8040:=fun x hm=>by
  obtain⟨e1,hf⟩:=hg x hm;have hd:=hdp x hm;have hsx:=hs.x x hm;have hsz:=hsx.sz;have hwd:=hsx.wd;generalize g x=e at *;subst e1;have hl:=yk e hf 0;have hl8:(aH e 0).length<=8040:=Nat.le_trans hl (by omega);obtain⟨h1,h2,_,_⟩:=vU hf hwd (by omega) hd;exact⟨h1,h2,gO e hf (by omega),Nc hf hd (by omega),hl8⟩
 have hlen:(pD r c (c.vs.map fun x=>aH (g x) 0)).length<=65536:=by
  have hd:=wH h.k;have hpl:=h.pl;have hcl:=h.cl;have hvl:=h.vl
  have h1:=DE (m:=8040) (c.vs.map fun x=>aH (g x) 0) [] fun t ht=>by
   obtain⟨x,hm,rfl⟩:=List.mem_map.1 ht;exact(hall x hm).2.2.2.2
  rw[List.nil_append,List.length_map]at h1;have h0:(xl []).length=0:=rfl
  have h2:=vq (m:=7) (l:=c.ps.map lz++c.cs.map og++oN c) fun w hw=>by
   rcases List.mem_append.1 hw with hw|hw
   ·rcases List.mem_append.1 hw with hw|hw
    ·obtain⟨z,hz,rfl⟩:=List.mem_map.1 hw
     exact Nat.le_trans (sZ (h.p z hz)).1 (by decide)
    ·obtain⟨z,hz,rfl⟩:=List.mem_map.1 hw
     exact Nat.le_trans (sZ (h.c z hz)).2 (by decide)
   ·unfold oN at hw
    split at hw
    ·rw[List.mem_singleton.1 hw];exact(Gf _).1
    ·split at hw
     ·rw[List.mem_singleton.1 hw];exact(Gf _).2
     ·cases hw
  have h3:(oN c).length<=1:=by unfold oN;split;exact Nat.le_refl _;split;exact Nat.le_refl _;exact Nat.zero_le _
  rw[List.length_append,List.length_append,List.length_map,List.length_map]at h2;unfold pD;rw[List.length_append,show Lib.join (xJ r c) [32]=r.nm++pN (c.ps.map lz++c.cs.map og++oN c) from CT _ _,List.length_append];omega
 have c3:=hs.valid 200 200;rw[hv]at c3;have cF:=iT h (fun x=>aH (g x) 0) c3 (fun x hm=>(hall x hm).1) hlen (by have:=hs.v;omega);have cT:=xC h (fun x=>aH (g x) 0) (fun x hm=>(hall x hm).2.2.1) hlen;refine⟨_,cF,cT,?_⟩;rw[htx]at cF hlen ⊢;exact pk h hes (fun e he=>by obtain⟨x,hm,rfl⟩:=List.mem_map.1 he;exact(hg x hm).2) M2 (fun e he=>by obtain⟨x,hm,rfl⟩:=List.mem_map.1 he;exact(hall x hm).2.2.2.1) (fun e he=>by obtain⟨x,hm,rfl⟩:=List.mem_map.1 he;exact(hall x hm).2.1) cF hlen
theorem lO {c:Cn} (hw:R8 c):aa Tryz.prog 6 [dC c] (.one (dB true)):=by
 refine MO (aA func6 rfl rfl) fun hl=>?_
 have c1:=vG c hw hl.p hl.q hl.v;cases hsm:RR c with
 |false=>
  rw[hsm]at c1;obtain⟨k,ps,cs,vs,s⟩:=c;have c1:aa Tryz.prog 16 [.agg (cC k ps cs vs s)] (.one (dB false)):=c1;refine JH ?_;refine kC (nJ) ?_;exact ap
 |true=>
 have hs:=ME hw hsm;have c2:=hs.rvalid 200 200;have c3:=hs.valid 200 200;rw[hsm]at c1;cases hv:De c 200 200 with
 |false=>
  rw[hv]at c2 c3;have cF:=vP c3;clear hs hl hw c3;obtain⟨k,ps,cs,vs,s⟩:=c;have c1:aa Tryz.prog 16 [.agg (cC k ps cs vs s)] (.one (dB true)):=c1;have c2:aa Tryz.prog 18 [.agg (cC k ps cs vs s),dN .i64 200,dN .i64 200] (.one (dB false)):=c2;have cF:aa Tryz.prog 25 [.agg (cC k ps cs vs s)] (.tup [dL [],dN .i64 1]):=cF;refine JH ?_;refine kQ (cF) ?_;refine kC (c2) ?_;refine kG ?_
  refine kO4 ?_
  refine Pt ?_;exact ap
 |true=>
 rw[hv]at c2;obtain⟨t,cF,cT,cP⟩:=IQ hs hv
 have cE:aa Tryz.prog 28 [dC c,dC c] (.one (dB true)):=by
  have:=wM c c (by have:=hs.p;omega) (by have:=hs.q;omega) (by have:=hs.v;omega) fun x hx y hy=>ub x (hs.x x hx).lw y (hs.x y hy).lw
  have e:Uh c c=true:=by
   unfold Uh;rw[rl]
   simp
  rwa[e]at this
 clear hs hl hw c3 hv;obtain⟨k,ps,cs,vs,s⟩:=c;have c1:aa Tryz.prog 16 [.agg (cC k ps cs vs s)] (.one (dB true)):=c1;have c2:aa Tryz.prog 18 [.agg (cC k ps cs vs s),dN .i64 200,dN .i64 200] (.one (dB true)):=c2;have cF:aa Tryz.prog 25 [.agg (cC k ps cs vs s)] (.tup [dL t,dN .i64 0]):=cF;have cT:aa Tryz.prog 27 [.agg (cC k ps cs vs s)] (.one (dL t)):=cT;have cP:aa Tryz.prog 26 [dL t] (.tup [.agg (cC k ps cs vs s),dN .i64 0]):=cP;have cE:aa Tryz.prog 28 [.agg (cC k ps cs vs s), .agg (cC k ps cs vs s)] (.one (dB true)):=cE;refine JH ?_;refine kQ (cF) ?_;refine kQ (c2) ?_;refine kC (cP) ?_;refine kG ?_
 refine kO5 ?_
 refine kC (cT) ?_;refine aq rfl rfl rfl rfl rfl rfl rfl (bv (a:=t) (b:=t) rfl) ?_;refine kW ?_;refine kC (cE) ?_;exact ap
set_option maxHeartbeats 100000000
set_option maxRecDepth 100000 in
theorem jC (os:Os) (started:os.Started) (H:Type) (enc:TypeId × Value->H):
 ReturnsInHanded {} Tryz.checked os 6 .any (fun w args=>(Rows.constraintTextSpec.pre enc Tryz.prog Tryz.f6 [] false w args/\laidMetH Tryz.prog Rows.constraintTextRow.laid w)/\sizedMet enc Tryz.prog Tryz.f6 (OpenSpec.ofChange Rows.constraintTextSpec) false w args)
  (Rows.constraintTextSpec.post enc Tryz.prog Tryz.f6 false true false false):=by
 refine mM (C:=Tryz.checked) (X:=fun w _=>laidMetH Tryz.prog Rows.constraintTextRow.laid w) (fun _ _ _ hh h=>h.of_heap hh) Tryz.own started (by kernel_rfl) func6
  (ChangeSpec.witness_shaped (enc:=enc) (C:=Tryz.checked) (os:=os) (X:=fun w _=>laidMetH Tryz.prog Rows.constraintTextRow.laid w) false (World.laidAll Tryz.prog os Rows.constraintTextRow.laid) #[.agg #[.int .i64 0, .slice none 0 0, .slice none 0 0, .slice none 0 0, .int .i64 0]] 8 (World.laidAll_os _ _ _) (World.shaped_of_ZipB (by kernel_rfl) (by kernel_rfl)) (by kernel_rfl) (by kernel_rfl) (by kernel_rfl)
   (by rw[MakeChecks.laidMetH_plain _ _ _ (by kernel_rfl)];exact laidMet_laidAll _ (by kernel_rfl) (by kernel_rfl))) ?_
 intro W base args ds gs before hval0 hW _ hsh hL _;have htab:dy (fun _=>False) W:=MK (by kernel_rfl) (by unfold Rows.constraintTextRow;simp) (by unfold Rows.constraintTextRow;simp) (by unfold Rows.constraintTextRow;simp) (by unfold Rows.constraintTextRow;simp) (by unfold Rows.constraintTextRow;simp) (FB (by kernel_rfl) (by unfold Rows.constraintTextRow;simp) (by unfold Rows.constraintTextRow;simp) hsh hL) hL;have hval:∀(j:Nat) t v,Tryz.f6.params[j]? =some t->args[j]? =some v->Value.okWide Tryz.prog W .any base t v:=hval0;have hW':=hW;obtain⟨p,q,hA0,hV,rfl,hfz,hnd⟩:=hW;have hA:DataW.TrodAll enc Tryz.prog W 0 (fun _=>true) true Tryz.f6.params.toList args.toList ds p:=hA0;rw[params6]at hA hval;obtain⟨v0,d0,rfl,rfl,h0⟩:=trodAll_one hA;obtain⟨x0,a0,w0⟩:=EV (hval 0 30 v0 rfl rfl) h0
 refine(Eu (lO w0) htab (vs:=[_]) ⟨a0,trivial⟩).mono fun e W' ⟨he,hB⟩=>?_
 subst he
 exact⟨_,rfl,Hi hW' rfl (by kernel_rfl) (by kernel_rfl) (fun ds hl=>by
  match ds,hl with
  | [_],_=>rfl) hB⟩
theorem l9 {a b:Bool} (ha:a=true) (hb:b=true):(a && b)=true:=by rw[ha,hb];rfl
theorem jA:joinedFacts Tryz.pinned.checked.prog 6 Tryz.f6 Rows.constraintTextSpec Rows.constraintTextRow=true:=by
 unfold joinedFacts
 repeat' with_reducible refine l9 ?_ ?_
 all_goals as_aux_lemma=>kernel_rfl
theorem constraintText_holds:Rows.ConstraintTextSaid:=
 OpenClaim.holds_of_wide 6 Tryz.f6 rfl rfl rfl rfl rfl rfl rfl ⟨rfl,rfl,rfl,rfl,rfl⟩ rfl rfl rfl rfl rfl (by kernel_rfl) func6 jA
  (of_decide_eq_true (by kernel_rfl)) (by unfold Func.isWrapper;rw[if_neg (of_decide_eq_false (by kernel_rfl))];exact⟨rfl,rfl⟩)
  (fun os started H enc _=>jC os started H enc)
theorem constraintText_card:Rows.ConstraintTextCardSaid:=
 Claim7.holds_tied_plain_at .later [] [.data, .data, .data, .data, .sentinel, .sentinel, .data, .data, .data, .data, .pinned] true (true, "25c86bd66589960307155246b8fe43c01520037888ea7c58eed9425ab0b3c4d4") true
  constraintText_holds (fun _ h=>by cases h) (by as_aux_lemma=>kernel_rfl) (fun _ h=>by cases h) constraintText_row_tie rfl ⟨rfl,rfl⟩ (by as_aux_lemma=>kernel_rfl) rfl
  (fun f fn hf hfn=>by
   obtain rfl:f=6:=Option.some.inj ((show Tryz.prog.funcNamed "setsquare/setsquarelaw25.ConstraintText" =some 6 by kernel_rfl).symm.trans hf) |>.symm;obtain rfl:fn=Tryz.f6:=(Option.some.inj (func6.symm.trans hfn)).symm
   exact⟨by as_aux_lemma=>kernel_rfl,fun j t ht=>by
    rw[params6]at ht;have hm:t∈[30]:=by simpa using Array.mem_of_getElem? ht
    have hall:([30].all fun u=>!Tryz.prog.wantsStandIn u)=true:=by kernel_rfl
    exact(show Tryz.prog.wantsStandIn t=false by simpa using List.all_eq_true.1 hall t hm)⟩)
  (by as_aux_lemma=>kernel_rfl)
end
end Go.Proofs.YtnchbpoopnjghaaGreatDoor
