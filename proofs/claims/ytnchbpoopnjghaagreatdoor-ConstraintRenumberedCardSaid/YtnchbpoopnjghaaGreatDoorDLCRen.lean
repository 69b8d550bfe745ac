/- ConstraintRenumbered answers true. -/
import Derived.Test.YtnchbpoopnjghaaGreatDoorDZ15
import Derived.Test.YtnchbpoopnjghaaGreatDoorDCY
set_option maxHeartbeats 100000000
set_option linter.all false
open Go.Proofs.Tryz
namespace Go.Proofs.YtnchbpoopnjghaaGreatDoor
open Go.RowKit
section
open Go.ChangeShapes Go.WideShapes Go.ChangeAt Go.RowKit Go.Joins
section
variable {P:Program} {T:TypeId->Option Ty} {n:Nat} {ops:Array Oper} {id:Nat} {draw:Bool} {K:AS->Prop} {s:AS} {k:Nat} {o:Oper} {os:List Oper} {fps:List FP}
theorem q9 (j':Nat) {d t et q:Nat} {ty:Ty} (hT:∀t d,T t=some d->aY P t d) (h1:gd ops s o=some true) (ho:o.op= .buildSlice t 0 #[]) (hd:o.dst=some d) (h3:aG n o.dst=true) (ht:T t=some ty) (hel:ty.elem=some (et,q)) (hnew:fc s j'=true)
 (h4:eY draw ops (az ops o ⟨.own j' 0 q et,some [(j',some [])]⟩ [j']) k fps=true) (h:aq P T n ops id draw K (k+1) os (s.eff o.dst ⟨.own j' 0 q et,some [(j',some [])]⟩) (az ops o ⟨.own j' 0 q et,some [(j',some [])]⟩ [j']::fps)):aq P T n ops id draw K k (o::os) s fps:=by
 refine .run h1 (.gen fun s2 _ hrb=>?_) h3 h4 h;have hnew2:fc s2 j'=true:=(ep (hrb j' (by simp))).trans hnew;intro n S0 w0 g a w K' Q hM hdn hK;obtain⟨u,hu,_,hel',_⟩:=(hT _ _ ht).und;obtain⟨rfl,hks⟩:=hel' et q hel
 have hr:(execOp a.eval o).run P w= .ok (.value (.slice (some ⟨w.heap.size,0,none⟩) 0 0)) (w.alloc (.cells #[] et)):=by
  unfold execOp;rw[ho]
  simp only[Instr.buildSlice,Sem.run_bind,run_underlying hu w,Result.andThen_ok,bA hks w]
  rw[if_neg (by omega),if_pos (by omega)]
  simp[Instr.fill,show Array.range 0= #[] from by decide]
  rfl
 unfold Oper.wp;rw[hr];show K' (a.put o.dst _) _;rw[hd]at hK ⊢;refine hK _ _ _ (hM.alloc (hdn d hd) (bt hnew2).1 (bt hnew2).2 ⟨Nat.le_refl _,fun i a v h=>by simp at h⟩ (fun _ v h=>by simp at h) (fun a h=>by cases h) (fun h=>by rw[mM hnew2]at h;cases h) fun g' s' hg hb=>?_);refine⟨AS.kn_of hb,fun cs hc=>⟨0,by rw[hg],Nat.le_refl _,by decide,by simp,#[],?_,by simp⟩⟩;rw[hg];exact heap_alloc_new w _
theorem Ia (j':Nat) {d j:Nat} {x y:Operand} {t et q m:Nat} {ty te:Ty} {xs:List AV} (hT:∀t d,T t=some d->aY P t d) (hm:0<m) (hb:m*te.bytes<=140737488355328) (hxs:xs.length=m*q) (h1:gd ops s o=some true) (ho:o.op= .call ⟨.builtin .append,#[x,y],#[t,t]⟩) (hd:o.dst=some d) (h3:aG n o.dst=true) (ht:T t=some ty) (hel:ty.elem=some (et,q)) (hte:T et=some te) (hq:te.size=q) (hq0:(Nat.ble 1 q && Nat.ble 1 te.bytes)=true)
 (hx:s.ev x= .own j 0 q et) (hj:s.bx j=some []) (hy:s.ev y= .d (.leaf (.sl m xs))) (hnew:fc s j'=true) (hcl:(bz te.zero && bz xs && iV (some j))=true)
 (h4:eY draw ops (az ops o ⟨.own j' m q et,some ((j',some xs)::eH (some j) [])⟩ (j'::q6 (some j))) k fps=true)
 (h:aq P T n ops id draw K (k+1) os (s.eff o.dst ⟨.own j' m q et,some ((j',some xs)::eH (some j) [])⟩) (az ops o ⟨.own j' m q et,some ((j',some xs)::eH (some j) [])⟩ (j'::q6 (some j))::fps)):aq P T n ops id draw K k (o::os) s fps:=by
 have e1:0+m=m:=Nat.zero_add m;have e2:([]:List AV).take (0*q)++xs=xs:=by simp
 refine Ad j' (m1:=0) (m2:=m) (cs:=[]) (dead:=some j) hT hm (by rw[e1];exact hb) hxs h1 ho hd h3 ht hel hte hq hq0 (.own hx hj) hy hnew hcl ?_ ?_
 ·rw[e1,e2];exact h4
 ·rw[e1,e2];exact h
end
theorem tT (l:List Int):bz (dr l)=true:=iA fun b hb=>by
 obtain⟨z,_,rfl⟩:=List.mem_map.1 hb;rfl
theorem gZ {c:Cn} (hw:Ng c) (b:Int) (hb:0<=b/\b<=255):aa Tryz.prog 8 [dC c,dN .u8 b] (.one (dB true)):=by
 refine Dd (av func8 rfl rfl) fun hl=>?_
 have c1:=f3 c hw hl.p hl.q hl.v;cases hsm:JC c with
 |false=>
  rw[hsm]at c1;obtain⟨k,ps,cs,vs,s⟩:=c;have c1:aa Tryz.prog 16 [.agg (cC k ps cs vs s)] (.one (dB false)):=c1;refine Jq ?_;exact Jk
 |true=>
 have hs:=pS hw hsm;have c2:=hs.rvalid 8 8;rw[hsm]at c1;cases hv:vA c 8 8 with
 |false=>
  rw[hv]at c2;clear hs hl hw;obtain⟨k,ps,cs,vs,s⟩:=c;have c1:aa Tryz.prog 16 [.agg (cC k ps cs vs s)] (.one (dB true)):=c1;have c2:aa Tryz.prog 18 [.agg (cC k ps cs vs s),dN .i64 8,dN .i64 8] (.one (dB false)):=c2;refine Jq ?_;refine DO ?_;refine gG ?_;refine kC (c2) ?_;refine DO ?_;exact am
 |true=>
 have c3:=hs.valid 8 8;have c4:=hs.valid 9 (8+b);have hs2:QL (SJ b c):=⟨by show(c.ps.map _).length<=10;rw[List.length_map];exact hs.p,by show(c.cs.map _).length<=10;rw[List.length_map];exact hs.q,hs.v,hs.x⟩;have c5:=hs2.valid 8 8;rw[ES hb.1 hv]at c5;rw[IM hv (by decide) (by omega)]at c4;rw[hv]at c2 c3;obtain⟨ip,iq⟩:=Py hv;have lp:=hs.p;have lq:=hs.q;clear hs hs2 hl hw hv;obtain⟨k,ps,cs,vs,s⟩:=c;have c1:aa Tryz.prog 16 [.agg (cC k ps cs vs s)] (.one (dB true)):=c1;have c2:aa Tryz.prog 18 [.agg (cC k ps cs vs s),dN .i64 8,dN .i64 8] (.one (dB true)):=c2;have c3:aa Tryz.prog 17 [.agg (cC k ps cs vs s),dN .i64 8,dN .i64 8] (.one (dB true)):=c3;have c4:aa Tryz.prog 17 [.agg (cC k ps cs vs s),dN .i64 9,dN .i64 (8+b)] (.one (dB true)):=c4
 have c5:aa Tryz.prog 17 [.agg [.val (.int .i64 k), .sl ps.length (dr (pD b ps.length ps)), .sl cs.length (dr (pD b cs.length cs)), .sl vs.length (d7 vs), .val (.int .i64 s)],dN .i64 8,dN .i64 8] (.one (dB true)):=by
  have e:dC (SJ b ⟨k,ps,cs,vs,s⟩)= .agg [.val (.int .i64 k), .sl ps.length (dr (pD b ps.length ps)), .sl cs.length (dr (pD b cs.length cs)), .sl vs.length (d7 vs), .val (.int .i64 s)]:=by
   rw[CZ (Nat.le_refl _),CZ (Nat.le_refl _)];unfold dC aC SJ
   simp only[List.length_map]
  rw[<- e];exact c5
 dsimp only at ip iq lp lq;refine Jq ?_;refine DO ?_;refine gG ?_;refine kC (c2) ?_;refine kN ?_;refine kG ?_;refine kO ?_;refine Bh 801 ah rfl rfl rfl rfl rfl rfl rfl rfl rfl rfl ?_;refine kN ?_;refine oS ⟨[(1, .d (dN .u8 b)),(2, .box 0 0),(5, .box 801 0)],[(0,some (cC k ps cs vs s)),(801,some [.val (.int .i64 k), .ow 701 ps.length 1 3, .ow 703 cs.length 1 3, .sl vs.length (d7 vs), .val (.int .i64 s)]),(701,some (dr ps)),(703,some (dr cs))]⟩ (fun s' hw=>?_) (fun R hR hret=>?_)
 ·clear c1 c2
  refine oS ⟨[(1, .d (dN .u8 b)),(2, .box 0 0),(5, .box 801 0)],[(0,some (cC k ps cs vs s)),(801,some [.val (.int .i64 k), .ow 701 ps.length 1 3, .ow 703 cs.length 1 3, .sl vs.length (d7 vs), .val (.int .i64 s)]),(701,some (dr (pD b ps.length ps))),(703,some (dr cs))]⟩ (fun s2 hw2=>?_) (fun R hR hret=>?_)
  ·refine oS ⟨[(1, .d (dN .u8 b)),(2, .box 0 0),(5, .box 801 0)],[(0,some (cC k ps cs vs s)),(801,some [.val (.int .i64 k), .sl ps.length (dr (pD b ps.length ps)), .sl cs.length (dr (pD b cs.length cs)), .sl vs.length (d7 vs), .val (.int .i64 s)])]⟩ (fun s3 hw3=>?_) (fun R hR hret=>?_)
   ·refine ez hw3 rfl ?_
    refine kO ?_;refine kC (c3) ?_
    refine kO3 ?_
    refine bM (v':= .int .i64 (b)) rfl rfl rfl rfl ?_ ?_
    ·exact PQ
    refine bM (v':= .int .i64 (8+b)) rfl rfl rfl rfl ?_ ?_
    ·exact PQ
    refine kC (c4) ?_
    refine kO3 ?_
    refine kC (c5) ?_;exact am
   ·clear c3 c4 c5
    refine bu ?_;refine ez hw2 rfl ?_;refine kW ?_;refine ax Nat (fun i=>i<=cs.length) (fun i=>⟨[(1, .d (dN .u8 b)),(2, .box 0 0),(5, .box 801 0),(54, .d (dN .i64 cs.length)),(55, .d (dN .i64 i))],[(0,some (cC k ps cs vs s)),(801,some [.val (.int .i64 k), .ow 701 ps.length 1 3, .ow 703 cs.length 1 3, .sl vs.length (d7 vs), .val (.int .i64 s)]),(701,some (dr (pD b ps.length ps))),(703,some (dr (pD b i cs)))]⟩) (fun i=>cs.length-i) 0 (Nat.zero_le _) kw ?_;intro i hi;refine kI ?_
    by_cases hlt:i<cs.length
    ·refine kT ?_
     obtain⟨z,hz⟩:∃z,cs[i]? =some z:=⟨cs[i],by simp[hlt]⟩;have hzb:=iq z (List.mem_of_getElem? hz);have hat:=IG (b:=b) hz;have hput:=CO (b:=b) hz;have hlen:i*1<(dr (pD b i cs)).length:=by rw[mh,BG];omega
     exact SZ
    ·obtain rfl:i=cs.length:=by omega
     refine kY ?_;exact hR _ (aU.trans (iU (i:=801) (off:=1) (j:=701) rfl rfl rfl rfl rfl) (aU.trans (iU (i:=801) (off:=2) (j:=703) rfl rfl rfl rfl rfl) kw))
  ·clear c3 c4 c5
   refine bu ?_;refine ez hw rfl ?_;refine kW ?_;refine ax Nat (fun i=>i<=ps.length) (fun i=>⟨[(1, .d (dN .u8 b)),(2, .box 0 0),(5, .box 801 0),(34, .d (dN .i64 ps.length)),(35, .d (dN .i64 i))],[(0,some (cC k ps cs vs s)),(801,some [.val (.int .i64 k), .ow 701 ps.length 1 3, .ow 703 cs.length 1 3, .sl vs.length (d7 vs), .val (.int .i64 s)]),(701,some (dr (pD b i ps))),(703,some (dr cs))]⟩) (fun i=>ps.length-i) 0 (Nat.zero_le _) kw ?_;intro i hi;refine kI ?_
   by_cases hlt:i<ps.length
   ·refine kT ?_
    obtain⟨z,hz⟩:∃z,ps[i]? =some z:=⟨ps[i],by simp[hlt]⟩;have hzb:=ip z (List.mem_of_getElem? hz);have hat:=IG (b:=b) hz;have hput:=CO (b:=b) hz;have hlen:i*1<(dr (pD b i ps)).length:=by rw[mh,BG];omega
    exact SZ
   ·obtain rfl:i=ps.length:=by omega
    refine kY ?_;exact hR _ kw
 ·clear c1 c2 c3 c4 c5 ip iq hret
  rcases ps with _| ⟨p0,pr⟩<;>rcases cs with _| ⟨q0,qr⟩
  ·refine bc (T:=TT) rfl ?_
   refine q9 701 ah rfl rfl rfl rfl rfl rfl rfl rfl ?_;refine Ij ?_;exact Od
  ·refine bc (T:=TT) rfl ?_
   refine q9 701 ah rfl rfl rfl rfl rfl rfl rfl rfl ?_;refine Ij ?_;exact Sd
  ·refine Q4 ?_
   exact Od
  ·refine Q4 ?_
   exact Sd
set_option maxHeartbeats 100000000
set_option maxRecDepth 100000 in
theorem fY (os:Os) (started:os.Started) (H:Type) (enc:TypeId × Value->H):
 ReturnsInHanded {} Tryz.checked os 8 .any (fun w args=>(Rows.constraintRenumberedSpec.pre enc Tryz.prog Tryz.f8 [] false w args/\laidMetH Tryz.prog Rows.constraintRenumberedRow.laid w)/\sizedMet enc Tryz.prog Tryz.f8 (OpenSpec.ofChange Rows.constraintRenumberedSpec) false w args)
  (Rows.constraintRenumberedSpec.post enc Tryz.prog Tryz.f8 false true false false):=by
 refine eJ (C:=Tryz.checked) (X:=fun w _=>laidMetH Tryz.prog Rows.constraintRenumberedRow.laid w) (fun _ _ _ hh h=>h.of_heap hh) Tryz.own started (by kernel_rfl) func8
  (ChangeSpec.witness_shaped (enc:=enc) (C:=Tryz.checked) (os:=os) (X:=fun w _=>laidMetH Tryz.prog Rows.constraintRenumberedRow.laid w) false (World.laidAll Tryz.prog os Rows.constraintRenumberedRow.laid) #[.agg #[.int .i64 0, .slice none 0 0, .slice none 0 0, .slice none 0 0, .int .i64 0], .int .u8 0] 8 (World.laidAll_os _ _ _) (World.shaped_of_ZipB (by kernel_rfl) (by kernel_rfl)) (by kernel_rfl) (by kernel_rfl) (by kernel_rfl)
   (by rw[MakeChecks.laidMetH_plain _ _ _ (by kernel_rfl)];exact laidMet_laidAll _ (by kernel_rfl) (by kernel_rfl))) ?_
 intro W base args ds gs before hval0 hW _ hsh hL _;have htab:cH (fun _=>False) W:=uK (by kernel_rfl) (by unfold Rows.constraintRenumberedRow;simp) (by unfold Rows.constraintRenumberedRow;simp) (by unfold Rows.constraintRenumberedRow;simp) (by unfold Rows.constraintRenumberedRow;simp) (by unfold Rows.constraintRenumberedRow;simp) (nX (by kernel_rfl) (by unfold Rows.constraintRenumberedRow;simp) (by unfold Rows.constraintRenumberedRow;simp) hsh hL) hL;have hval:∀(j:Nat) t v,Tryz.f8.params[j]? =some t->args[j]? =some v->Value.okWide Tryz.prog W .any base t v:=hval0;have hW':=hW;obtain⟨p,q,hA0,hV,rfl,hfz,hnd⟩:=hW;have hA:DataW.TrodAll enc Tryz.prog W 0 (fun _=>true) true Tryz.f8.params.toList args.toList ds p:=hA0;rw[params8]at hA hval;obtain⟨v0,v1,d0,d1,p0,p1,rfl,rfl,rfl,h0,h1⟩:=trodAll_two hA
 obtain⟨x0,a0,w0⟩:=km (hval 0 30 v0 rfl rfl) h0;obtain⟨x1,rfl,rfl,rfl,a1⟩:=open_int underlying5 (hval 1 5 v1 rfl rfl) h1;refine(nB (gZ w0 x1 (bounds_u8 a1)) htab (vs:=[_,_]) ⟨a0,AV.M.val rfl,trivial⟩).mono fun e W' ⟨he,hB⟩=>?_
 subst he
 exact⟨_,rfl,ri hW' rfl (by kernel_rfl) (by kernel_rfl) (fun ds hl=>by
  match ds,hl with
  | [_,_],_=>rfl) hB⟩
theorem ie {a b:Bool} (ha:a=true) (hb:b=true):(a && b)=true:=by rw[ha,hb];rfl
theorem f5:joinedFacts Tryz.pinned.checked.prog 8 Tryz.f8 Rows.constraintRenumberedSpec Rows.constraintRenumberedRow=true:=by
 unfold joinedFacts
 repeat' with_reducible refine ie ?_ ?_
 all_goals as_aux_lemma=>kernel_rfl
theorem constraintRenumbered_holds:Rows.ConstraintRenumberedSaid:=
 OpenClaim.holds_of_wide 8 Tryz.f8 rfl rfl rfl rfl rfl rfl rfl ⟨rfl,rfl,rfl,rfl,rfl⟩ rfl rfl rfl rfl rfl (by kernel_rfl) func8 f5
  (of_decide_eq_true (by kernel_rfl)) (by unfold Func.isWrapper;rw[if_neg (of_decide_eq_false (by kernel_rfl))];exact⟨rfl,rfl⟩)
  (fun os started H enc _=>fY os started H enc)
theorem constraintRenumbered_card:Rows.ConstraintRenumberedCardSaid:=
 Claim7.holds_tied_plain_at .later [] [.data, .data, .data, .data, .sentinel, .sentinel, .data, .data, .data, .data, .pinned] true (true, "25c86bd66589960307155246b8fe43c01520037888ea7c58eed9425ab0b3c4d4") true
  constraintRenumbered_holds (fun _ h=>by cases h) (by as_aux_lemma=>kernel_rfl) (fun _ h=>by cases h) constraintRenumbered_row_tie rfl ⟨rfl,rfl⟩ (by as_aux_lemma=>kernel_rfl) rfl
  (fun f fn hf hfn=>by
   obtain rfl:f=8:=Option.some.inj ((show Tryz.prog.funcNamed "setsquare/setsquarelaw25.ConstraintRenumbered" =some 8 by kernel_rfl).symm.trans hf) |>.symm;obtain rfl:fn=Tryz.f8:=(Option.some.inj (func8.symm.trans hfn)).symm
   exact⟨by as_aux_lemma=>kernel_rfl,fun j t ht=>by
    rw[params8]at ht;have hm:t∈[30,5]:=by simpa using Array.mem_of_getElem? ht
    have hall:([30,5].all fun u=>!Tryz.prog.wantsStandIn u)=true:=by kernel_rfl
    exact(show Tryz.prog.wantsStandIn t=false by simpa using List.all_eq_true.1 hall t hm)⟩)
  (by as_aux_lemma=>kernel_rfl)
end
end Go.Proofs.YtnchbpoopnjghaaGreatDoor
