/- ConstraintValues answers true. -/
import Derived.Test.YtnchbpoopnjghaaGreatDoorQZ16
set_option maxHeartbeats 100000000
set_option linter.all false
open Go.Proofs.Tryz
namespace Go.Proofs.YtnchbpoopnjghaaGreatDoor
open Go.RowKit
section
open Go.ChangeShapes Go.WideShapes Go.ChangeAt Go.RowKit Go.Joins
theorem RM {x:Rx} (hx:j3 x) (h:(decide (qH x 120<=120) && oB x)=true):AG x:=by
 rw[B_,decide_eq_true_eq]at h;exact⟨hx,h.2,by rw[<- (sh x 120).2.2 h.1];exact h.1⟩
def T1 (p:Pm):Bool:=(decide (qH p.2 120<=120) && oB p.2) && decide (p.1.length<=60)
theorem VV:(ov.all fun r=>decide (r.n=0) || (decide (r.v=1) || (decide (r.v=2) || decide (r.v=3))))=true:=D_
theorem Ul {k:Int} {r:Kd} (h:pR k=some r) (hn:r.n≠0):r.v=1∨r.v=2∨r.v=3:=by
 have:=I_.1 VV r (M_ (m5 h).2.2)
 simpa[hn]using this
theorem EN {f:Rx->Except Int Rat}:∀(vs:List Rx) (qs:List Rat),oJ f vs= .ok qs->qs.length=vs.length
 | [],qs,h=>by cases h;rfl
 |x::vs,qs,h=>by
  rw[oJ]at h
  split at h
  ·cases h
  ·split at h
   ·cases h
   ·rename_i h2
    cases h;rw[List.length_cons,List.length_cons,EN vs _ h2]
theorem Fl {c:Cn} {l:Tb} (hs:SV c) (hT:ul l) (hl:l.length<=8) (hV:(bW l).2=0->Ed l):∃X:Except Int (List Rat),aa Tryz.prog 22 [dC c,da l] (Il X)/\aa Tryz.prog 23 [dC c,da l] (Il X)/\ ∀qs,X= .ok qs->qs.length<=4/\ ∀q∈qs,∃k,k<=2147483640/\b8 k q:=by
 have c1:=hs.valid 200 200;have c2:=hs.rvalid 200 200;have h3:=hs.v;cases hv:GA c 200 200 with
 |false=>
  rw[hv]at c1 c2;exact⟨.error 1,wJ c1,ru c2,fun qs h=>by cases h⟩
 |true=>
  rw[hv]at c1 c2;obtain⟨r,h⟩:=wB.1 hv;have hvv:c.vs≠[]->r.v=1∨r.v=2∨r.v=3:=fun hn=>Ul h.k fun e=>hn (E_ (by have:=h.vl;omega))
  have hall:∀x:Rx,∃E:QR,x∈c.vs->GQ l x=bM E/\(∀e,E= .error e->e≠0)/\ ∀y,E= .ok y-> ∃k,k<=2147483640/\b8 k y.1:=fun x=>by
   by_cases hx:x∈c.vs
   ·obtain⟨E,hE⟩:=TM (x:=x) hT (hs.x x hx) hV
    exact⟨E,fun _=>hE⟩
   ·exact⟨.error 1,fun h=>absurd h hx⟩
  obtain⟨g,hg⟩:=Classical.axiomOfChoice hall
  have hE:∀x∈c.vs,∀e,Br r.v (g x)= .error e->e≠0:=fun x hx e he=>by
   unfold Br at he
   split at he
   ·cases he;exact(hg x hx).2.1 _ (by assumption)
   ·split at he
    ·split at he<;>cases he;decide
    ·split at he
     ·split at he<;>cases he;decide
     ·cases he;decide
  refine⟨oJ (fun x=>Br r.v (g x)) c.vs,?_,?_,?_⟩
  ·refine ks h.k c1 O_ (fun x=>Br r.v (g x)) (fun x hx=>?_) hE
   have cE:=nX l x (pF l hT O_ hV) hT (hs.x x hx) hV;rw[(hg x hx).1]at cE;exact mh cE (hg x hx).2.1 (hg x hx).2.2 (hvv fun e=>by rw[e]at hx;cases hx)
  ·refine uR h.k c2 O_ hvv g (fun x hx=>?_) fun x hx=>(hg x hx).2.1
   have cE:=Ai l x hT (hs.x x hx) O_ hV
   rwa[(hg x hx).1]at cE
  ·have key:∀(vs:List Rx),(∀x∈vs,x∈c.vs)-> ∀qs,oJ (fun x=>Br r.v (g x)) vs= .ok qs-> ∀q∈qs,∃k,k<=2147483640/\b8 k q:=by
    intro vs
    induction vs with
    |nil=>intro _ qs h q hq;cases h;cases hq
    |cons x vs ih=>
     intro hm qs h q hq;rw[oJ]at h
     split at h
     ·cases h
     ·rename_i q0 hq0
      split at h
      ·cases h
      ·rename_i qs0 hqs0
       cases h;rcases f_.1 hq with rfl|hq
       ·unfold Br at hq0
        split at hq0
        ·cases hq0
        ·rename_i y hy
         have hk:=(hg x (hm x S_)).2.2 y hy
         split at hq0
         ·split at hq0<;>cases hq0;exact hk
         ·split at hq0
          ·split at hq0<;>cases hq0;exact hk
          ·cases hq0
       ·exact ih (fun x hx=>hm x (by simp[hx])) _ hqs0 q hq
   exact fun qs h=>⟨by rw[EN _ _ h];exact h3,key c.vs (fun x hx=>hx) qs h⟩
theorem RL {qs:List Rat} {i:Nat} {q:Rat} (h:qs[i]? =some q):∀(j:Nat) (a:AV),(aQ q)[j]? =some a->(A2 qs)[i*4+j]? =some a:=re (f:=aQ) (q:=4) (fun _=>rfl) qs i q h
theorem jX {c:Cn} (hw:Vi c) {l:Tb} (hT:Vn l):aa Tryz.prog 5 [dC c,da l] (.one (dB true)):=by
 refine L5 (aG func5 rfl rfl) fun hl=>?_
 have c1:=wS c hw hl.p hl.q hl.v;cases hsm:SM c with
 |false=>
  rw[hsm]at c1;obtain⟨k,ps,cs,vs,s⟩:=c;have c1:aa Tryz.prog 16 [.agg (cC k ps cs vs s)] (.one (dB false)):=c1;show aa Tryz.prog _ [.agg (cC k ps cs vs s),_] _;refine kV func5 ?_;refine kC (gn) ?_;refine iQ ?_;refine kC (gn) ?_;exact aj
 |true=>
 have hs:=Lw hw hsm;rw[hsm]at c1
 by_cases h8:8<l.length
 ·clear hs hl hw hT
  obtain⟨k,ps,cs,vs,s⟩:=c;have c1:aa Tryz.prog 16 [.agg (cC k ps cs vs s)] (.one (dB true)):=c1;refine QQ ?_
  refine kO5 ?_
  refine kX ?_;refine kC (gn) ?_;exact aj
 have hboth:=fun hT' hV=>Fl (l:=l) hs hT' O_ hV
 clear hs hl hw hsm;obtain⟨k,ps,cs,vs,s⟩:=c;have c1:aa Tryz.prog 16 [.agg (cC k ps cs vs s)] (.one (dB true)):=c1;have hboth:ul l->((bW l).2=0->Ed l)-> ∃X:Except Int (List Rat),aa Tryz.prog 22 [.agg (cC k ps cs vs s),da l] (Il X)/\aa Tryz.prog 23 [.agg (cC k ps cs vs s),da l] (Il X)/\ ∀qs,X= .ok qs->qs.length<=4/\ ∀q∈qs,∃k,k<=2147483640/\b8 k q:=hboth;refine QQ ?_
 refine kO5 ?_
 refine kY ?_;refine aq Nat (fun i=>i<=l.length/\(l.take i).all T1=true) (fun i=>⟨[(1, .d (da l)),(2, .box 0 0),(25, .d (da l)),(26, .d (dN .i64 l.length)),(27, .d (dN .i64 i))],[(0,some (cC k ps cs vs s))]⟩) (fun i=>l.length-i) 0 ⟨Nat.zero_le _,rfl⟩ kw ?_;rintro i ⟨hi,hall⟩
 by_cases hlt:i<l.length
 ·obtain⟨p,hp⟩:∃p,l[i]? =some p:=⟨l[i],by simp[hlt]⟩
  have cS:=nv p.2 (hT p (M_ hp)).2;obtain⟨o1,na1,xs1,nb1,ys1,nm1,n1,cs1,hA,hB⟩:=bD p;have hat:∀(j:Nat) (a:AV),(bV p.1 o1 na1 xs1 nb1 ys1 nm1 n1 cs1)[j]? =some a->(ot l)[i*8+j]? =some a:=fun j a h=>de l i p hp j a (by rw[hB];exact h)
  rw[show dR p.2= .agg (ab o1 na1 xs1 nb1 ys1 nm1 n1 cs1) from congrArg DV.agg hA]at cS;have hnext:T1 p=true->(l.take (i+1)).all T1=true:=fun h=>by rw[aT hp,List.all_append,hall];simp[h]
  have hsz:=aJ p.1;unfold T1 at hnext;clear hboth c1;cases hb:(decide (qH p.2 120<=120) && oB p.2)with
  |false=>
   rw[hb]at cS;refine jM ?_;refine vi ?_;refine kW ?_;refine kC (cS) ?_;exact aj
  |true=>
   rw[hb]at cS hnext;generalize p.1=nm at *
   by_cases h60:nm.length<=60
   ·have hnx:=hnext (by rw[T_ h60];rfl)
    refine jM ?_;refine PV ?_;refine kY ?_;exact⟨i+1,⟨hlt,hnx⟩,by omega,weak ⟨rfl,rfl,rfl,rfl,ai O_ O_,trivial⟩ ⟨rfl,trivial⟩ rfl⟩
   ·refine jM ?_
    refine PV ?_;refine kT ?_;exact aj
 rw[K_ O_]at hall
 have hS:ul l:=fun p hp=>by
  have h:=I_.1 hall p hp;unfold T1 at h;rw[B_]at h;exact⟨h_ h.2,RM (hT p hp).2 h.1⟩
 have cV:=ni l hS O_;have cL:=Ij l hS O_;have hV:=fun(h:Lr l=true)=>Ed.of hS (QX h) O_
 have hboth:=hboth hS;clear hS hall hT
 by_cases hv:ur l=0
 ·generalize Lr l=lt at *
  cases lt with
  |false=>
   refine um ?_;refine JV ?_;exact aj
  |true=>
   obtain⟨X,x1,x2,hX⟩:=hboth (hV rfl);cases X with
   |error e=>
    unfold Il at x1 x2;dsimp only at x1 x2;refine um ?_;refine JV ?_;refine kW ?_;refine kQ (x1) ?_;refine kC (x2) ?_;refine kG ?_
    refine kO2 ?_
    refine kB false ?_ ?_
    ·exact(by simp)
    refine kW ?_;refine aq Nat (fun j=>j<=0) (fun j=>⟨[(73, .d (dN .i64 (0:Nat))),(74, .d (dN .i64 j))],[]⟩) (fun j=>j) 0 (Nat.zero_le _) kw ?_;intro j hj;refine kI ?_;refine kE ?_;exact aj
   |ok qs=>
    obtain⟨hq4,hX⟩:=hX qs rfl;unfold Il at x1 x2;dsimp only at x1 x2;refine um ?_;refine JV ?_;refine kW ?_;refine kQ (x1) ?_;refine kC (x2) ?_;refine kG ?_
    iterate 8 refine kO ?_
    refine kB false ?_ ?_
    ·exact(by simp)
    refine kW ?_;refine aq Nat (fun j=>j<=qs.length) (fun j=>⟨[(7, .d (.leaf (.sl qs.length (A2 qs)))),(9, .d (.leaf (.sl qs.length (A2 qs)))),(73, .d (dN .i64 qs.length)),(74, .d (dN .i64 j))],[]⟩) (fun j=>qs.length-j) 0 (Nat.zero_le _) kw ?_;intro j hj
    by_cases hjl:j<qs.length
    ·obtain⟨q,hq⟩:∃q,qs[j]? =some q:=⟨qs[j],by simp[hjl]⟩
     obtain⟨k2,hk2,hk3⟩:=hX q (M_ hq);have hat:=RL hq;have cS:aa Tryz.prog 24 [dQ q,dQ q] (.one (dB true)):=pJ (V_ hk3.1.digs O_) (V_ hk3.2.digs O_);obtain⟨na2,xs2,nb2,ys2,hQ⟩:=J7 q;rw[hQ]at hat;rw[show dQ q= .agg [.val (.bool na2),aW xs2, .val (.bool nb2),aW ys2] from congrArg DV.agg hQ]at cS;refine jM ?_;refine Qi ?_;refine kW ?_;refine Qi ?_;refine kO ?_;refine kQ (cS) ?_;exact⟨j+1,hjl,by omega,weak ⟨rfl,rfl,rfl,ai O_ O_,trivial⟩ trivial rfl⟩
    ·refine kI ?_
     refine kE ?_;exact aj
 ·clear hboth hV cL
  refine um ?_;refine kC (cV) ?_;refine kB true ?_ ?_
  ·exact(by simp[hv])
  exact aj
set_option maxHeartbeats 100000000
set_option maxRecDepth 100000 in
theorem iW (os:Os) (started:os.Started) (H:Type) (enc:TypeId × Value->H):
 ReturnsInHanded {} Tryz.checked os 5 .any (fun w args=>(Rows.constraintValuesSpec.pre enc Tryz.prog Tryz.f5 [] false w args/\laidMetH Tryz.prog Rows.constraintValuesRow.laid w)/\sizedMet enc Tryz.prog Tryz.f5 (OpenSpec.ofChange Rows.constraintValuesSpec) false w args)
  (Rows.constraintValuesSpec.post enc Tryz.prog Tryz.f5 false true false false):=by
 refine nC (C:=Tryz.checked) (X:=fun w _=>laidMetH Tryz.prog Rows.constraintValuesRow.laid w) (fun _ _ _ hh h=>h.of_heap hh) Tryz.own started (by kernel_rfl) func5
  (ChangeSpec.witness_shaped (enc:=enc) (C:=Tryz.checked) (os:=os) (X:=fun w _=>laidMetH Tryz.prog Rows.constraintValuesRow.laid w) false (World.laidAll Tryz.prog os Rows.constraintValuesRow.laid) #[.agg #[.int .i64 0, .slice none 0 0, .slice none 0 0, .slice none 0 0, .int .i64 0], .slice none 0 0] 8 (World.laidAll_os _ _ _) (World.shaped_of_ZipB (by kernel_rfl) (by kernel_rfl)) (by kernel_rfl) (by kernel_rfl) (by kernel_rfl)
   (by rw[MakeChecks.laidMetH_plain _ _ _ (by kernel_rfl)];exact laidMet_laidAll _ (by kernel_rfl) (by kernel_rfl))) ?_
 intro W base args ds gs before hval0 hW _ hsh hL _;have htab:dU (fun _=>False) W:=M8 (by kernel_rfl) (by unfold Rows.constraintValuesRow;simp) (by unfold Rows.constraintValuesRow;simp) (by unfold Rows.constraintValuesRow;simp) (by unfold Rows.constraintValuesRow;simp) (by unfold Rows.constraintValuesRow;simp) (FM (by kernel_rfl) (by unfold Rows.constraintValuesRow;simp) (by unfold Rows.constraintValuesRow;simp) hsh hL) hL;have hval:∀(j:Nat) t v,Tryz.f5.params[j]? =some t->args[j]? =some v->Value.okWide Tryz.prog W .any base t v:=hval0;have hW':=hW;obtain⟨p,q,hA0,hV,rfl,hfz,hnd⟩:=hW;have hA:DataW.TrodAll enc Tryz.prog W 0 (fun _=>true) true Tryz.f5.params.toList args.toList ds p:=hA0;rw[params5]at hA hval;obtain⟨v0,v1,d0,d1,p0,p1,rfl,rfl,rfl,h0,h1⟩:=trodAll_two hA
 obtain⟨x0,a0,w0⟩:=Gl (hval 0 30 v0 rfl rfl) h0;obtain⟨x1,a1,w1⟩:=Kk (hval 1 33 v1 rfl rfl) h1;refine(Gx (jX w0 w1) htab (vs:=[_,v1]) ⟨a0,a1,trivial⟩).mono fun e W' ⟨he,hB⟩=>?_
 subst he
 exact⟨_,rfl,JL hW' rfl (by kernel_rfl) (by kernel_rfl) (fun ds hl=>by
  match ds,hl with
  | [_,_],_=>rfl) hB⟩
theorem kd {a b:Bool} (ha:a=true) (hb:b=true):(a && b)=true:=by rw[ha,hb];rfl
theorem iS:joinedFacts Tryz.pinned.checked.prog 5 Tryz.f5 Rows.constraintValuesSpec Rows.constraintValuesRow=true:=by
 unfold joinedFacts
 repeat' with_reducible refine kd ?_ ?_
 all_goals as_aux_lemma=>kernel_rfl
theorem constraintValues_holds:Rows.ConstraintValuesSaid:=
 OpenClaim.holds_of_wide 5 Tryz.f5 rfl rfl rfl rfl rfl rfl rfl ⟨rfl,rfl,rfl,rfl,rfl⟩ rfl rfl rfl rfl rfl (by kernel_rfl) func5 iS
  (h_ (by kernel_rfl)) (by unfold Func.isWrapper;rw[if_neg (of_decide_eq_false (by kernel_rfl))];exact⟨rfl,rfl⟩)
  (fun os started H enc _=>iW os started H enc)
theorem constraintValues_card:Rows.ConstraintValuesCardSaid:=
 Claim7.holds_tied_plain_at .later [] [.data, .data, .data, .data, .sentinel, .sentinel, .data, .data, .data, .data, .pinned] true (true, "25c86bd66589960307155246b8fe43c01520037888ea7c58eed9425ab0b3c4d4") true
  constraintValues_holds (fun _ h=>by cases h) (by as_aux_lemma=>kernel_rfl) (fun _ h=>by cases h) constraintValues_row_tie rfl ⟨rfl,rfl⟩ (by as_aux_lemma=>kernel_rfl) rfl
  (fun f fn hf hfn=>by
   obtain rfl:f=5:=Option.some.inj ((show Tryz.prog.funcNamed "setsquare/setsquarelaw25.ConstraintValues" =some 5 by kernel_rfl).symm.trans hf) |>.symm;obtain rfl:fn=Tryz.f5:=(Option.some.inj (func5.symm.trans hfn)).symm
   exact⟨by as_aux_lemma=>kernel_rfl,fun j t ht=>by
    rw[params5]at ht;have hm:t∈[30,33]:=by simpa using Array.mem_of_getElem? ht
    have hall:([30,33].all fun u=>!Tryz.prog.wantsStandIn u)=true:=by kernel_rfl
    exact(show Tryz.prog.wantsStandIn t=false by simpa using I_.1 hall t hm)⟩)
  (by as_aux_lemma=>kernel_rfl)
end
end Go.Proofs.YtnchbpoopnjghaaGreatDoor
