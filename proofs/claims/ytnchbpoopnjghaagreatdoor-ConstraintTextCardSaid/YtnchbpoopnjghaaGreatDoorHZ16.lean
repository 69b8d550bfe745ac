/- Parts of a proof: contracts of the functions that the laws reach. -/
import Derived.Test.YtnchbpoopnjghaaGreatDoorHZ15
set_option maxHeartbeats 100000000
set_option linter.all false
open Go.Proofs.Tryz
namespace Go.Proofs.YtnchbpoopnjghaaGreatDoor
open Go.RowKit
theorem QU {vs:List Rx} {i:Nat} {x:Rx} (h:vs[i]? =some x) (hx:iI x≠0):vs.all (fun x=>decide (iI x=0))=false:=Bool.eq_false_iff.2 fun h2=>by
 have:=List.all_eq_true.1 h2 x (List.mem_of_getElem? h);exact hx (of_decide_eq_true this)
theorem LQ {vs:List Rx} (h:∀x∈vs,iI x=0):vs.all (fun x=>decide (iI x=0))=true:=List.all_eq_true.2 fun x hx=>decide_eq_true (h x hx)
theorem Tm:((List.range 4).all fun i=>decide (((mZ[i+4]?).map fun r=>(r.c,r.s))=some (0,false)))=true:=by decide
theorem Rr {k:Int} {r:Kd} (h:pL k=some r) (h1:5<=k) (h2:k<=8):r.s=false:=by
 obtain⟨_,_,h3⟩:=nz h;have:=List.all_eq_true.1 Tm (k.toNat-5) (List.mem_range.2 (by omega));rw[show k.toNat-5+4=k.toNat-1 by omega,h3]at this
 simp at this
 exact this.2
theorem vS (c:Cn) (P Q:Int) (h1:c.ps.length<=1000000) (h2:c.cs.length<=1000000) (h3:c.vs.length<=1000000) (hv:∀x∈c.vs,aa Tryz.prog 48 [dR x] (.one (dN .i64 (iI x)))):aa Tryz.prog 18 [dC c,dN .i64 P,dN .i64 Q] (.one (dB (De c P Q))):=by
 have cO:=uC c.k;cases hk:pL c.k with
 |none=>
  rw[hk]at cO;rw[ti hk];obtain⟨k,ps,cs,vs,s⟩:=c;have cO:aa Tryz.prog 31 [dN .i64 k] (.tup [.agg TE,dB false]):=cO;show aa Tryz.prog _ [.agg (cC k ps cs vs s),_,_] _;refine kV func18 ?_;refine kC (cO) ?_;exact ap
 |some r=>
  rw[hk]at cO;obtain⟨b,hb⟩:∃b,De c P Q=b:=⟨_,rfl⟩;rw[hb];rw[mn hk]at hb;have h58:5<=c.k->c.k<=8->r.p=4:=yd hk;have h59:5<=c.k->c.k<=8->r.s=false:=Rr hk;obtain⟨k,ps,cs,vs,s⟩:=c;obtain⟨nm,rp,rc,rn,rv,rq,rs⟩:=r;dsimp only at *;have cO:aa Tryz.prog 31 [dN .i64 k] (.tup [.agg (N0 ⟨nm,rp,rc,rn,rv,rq,rs⟩),dB true]):=cO;have cA:=lG ps P h1;have cB:=lG cs Q h2;have cF:=iM ps h1;have cG:=iM cs h2;obtain⟨A,hA⟩:∃A,ps.all (rT P)=A:=⟨_,rfl⟩;rw[hA]at cA hb;obtain⟨B,hB⟩:∃B,cs.all (rT Q)=B:=⟨_,rfl⟩;rw[hB]at cB hb;obtain⟨F,hF⟩:∃F,decide ps.Nodup=F:=⟨_,rfl⟩;rw[hF]at cF hb;obtain⟨G,hG⟩:∃G,decide cs.Nodup=G:=⟨_,rfl⟩;rw[hG]at cG hb;show aa Tryz.prog _ [.agg (cC k ps cs vs s),_,_] _
  refine kV func18 ?_;refine kC (cO) ?_;refine kG ?_
  iterate 8 refine kO ?_
  by_cases n1:(ps.length:Int)=rp
  rotate_left
  ·refine kB true ?_ ?_
   ·exact(by simp[n1])
   refine fR ?_;exact congrArg (fun b=>RV.one (dB b)) (by rw[<- hb,decide_eq_false n1];rfl)
  refine kB false ?_ ?_
  ·exact(by simp[n1])
  iterate 7 refine kO ?_
  by_cases n2:(cs.length:Int)=rc
  rotate_left
  ·refine kB true ?_ ?_
   ·exact(by simp[n2])
   refine fR ?_;exact congrArg (fun b=>RV.one (dB b)) (by rw[<- hb,decide_eq_false n2,Bool.false_and,Bool.false_and,Bool.and_false])
  refine kB false ?_ ?_
  ·exact(by simp[n2])
  iterate 7 refine kO ?_
  by_cases n3:(vs.length:Int)=rn
  rotate_left
  ·refine kB true ?_ ?_
   ·exact(by simp[n3])
   refine fR ?_;exact congrArg (fun b=>RV.one (dB b)) (by rw[<- hb,decide_eq_false n3,Bool.false_and,Bool.and_false,Bool.and_false])
  refine kB false ?_ ?_
  ·exact(by simp[n3])
  refine kO5 ?_
  refine kC (cA) ?_;cases A
  ·refine fR ?_
   exact congrArg (fun b=>RV.one (dB b)) (by rw[<- hb,Bool.and_false,Bool.false_and])
  iterate 6 refine kO ?_
  refine kC (cB) ?_;cases B
  ·refine fR ?_
   exact congrArg (fun b=>RV.one (dB b)) (by rw[<- hb,Bool.and_false,Bool.false_and,Bool.and_false])
  rw[decide_eq_true n1,decide_eq_true n2,decide_eq_true n3,Bool.true_and,Bool.true_and,Bool.true_and,Bool.true_and]at hb;refine kW ?_;refine ay Nat (fun i=>i<=vs.length/\ ∀x∈vs.take i,iI x=0) (fun i=>⟨[(3, .box 0 0),(7, .box 1006 0),(9, .d (dN .i64 i))],[(0,some (cC k ps cs vs s)),(1006,some (N0 ⟨nm,rp,rc,rn,rv,rq,rs⟩))]⟩) (fun i=>vs.length-i) 0 ⟨Nat.zero_le _,by simp⟩ kw ?_;rintro i ⟨hi,hn⟩;refine kI ?_
  refine kO4 ?_
  by_cases hlt:i<vs.length
  ·refine kT ?_
   obtain⟨x,hx⟩:∃x,vs[i]? =some x:=⟨vs[i],by simp[hlt]⟩;have cV:=hv x (List.mem_of_getElem? hx);have hno:=QU hx;have hat:=dP vs i x hx;obtain⟨o1,na1,xs1,nb1,ys1,nm1,n1',cs1,hX⟩:=aM x;rw[show dR x= .agg (ab o1 na1 xs1 nb1 ys1 nm1 n1' cs1) from congrArg DV.agg hX]at cV;rw[hX]at hat;refine kG ?_
   refine kO3 ?_
   refine Kx ?_;refine kO ?_;refine kC (cV) ?_
   by_cases e:iI x=0
   ·refine kB false ?_ ?_
    ·exact(by simp[e])
    refine kW ?_;refine⟨i+1,⟨hlt,?_⟩,by omega,weak ⟨rfl,rfl,an (by omega) (by omega),trivial⟩ ⟨rfl,rfl,trivial⟩ rfl⟩;rw[bn hx];intro y hy;rcases List.mem_append.1 hy with hy|hy
    ·exact hn y hy
    ·rw[List.mem_singleton.1 hy];exact e
   ·refine kB true ?_ ?_
    ·exact(by simp[e])
    refine fR ?_;exact congrArg (fun b=>RV.one (dB b)) (by rw[<- hb,hno e];rfl)
  ·refine kE ?_
   rw[List.take_of_length_le (by omega)]at hn;rw[LQ hn,Bool.true_and]at hb;refine kG ?_
   refine kO3 ?_
   cases rs
   ·iterate 16 refine kO ?_
    by_cases s0:s=0
    rotate_left
    ·refine kB true ?_ ?_
     ·exact(by simp[s0])
     refine fR ?_;exact congrArg (fun b=>RV.one (dB b)) (by rw[<- hb];simp[xm,s0])
    refine kB false ?_ ?_
    ·exact(by simp[s0])
    rw[show xm false s=true by simp[xm,s0],Bool.true_and]at hb
    iterate 3 refine kG ?_
    by_cases h6:5<=k/\k<=8
    ·rw[if_pos h6]at hb
     obtain⟨p,q,r,t,hps⟩:=C3 (l:=ps) (by have:=h58 h6.1 h6.2;omega);have i0:ps[0]? =some p:=by rw[hps];rfl
     have i1:ps[1]? =some q:=by rw[hps];rfl
     have i2:ps[2]? =some r:=by rw[hps];rfl
     have i3:ps[3]? =some t:=by rw[hps];rfl
     have hl:ps.length=4:=by rw[hps];rfl
     rw[hps]at hb;obtain⟨B1,e1⟩:∃B,(p == r)=B:=⟨_,rfl⟩;obtain⟨B2,e2⟩:∃B,(q == t)=B:=⟨_,rfl⟩;obtain⟨B3,e3⟩:∃B,(p == t)=B:=⟨_,rfl⟩;obtain⟨B4,e4⟩:∃B,(q == r)=B:=⟨_,rfl⟩;obtain⟨N5,e5⟩:∃B,(p != q)=B:=⟨_,rfl⟩;obtain⟨N6,e6⟩:∃B,(r != t)=B:=⟨_,rfl⟩;have hb:(N5 && (N6 && (!(B1 && B2) && !(B3 && B4))))=b:=by rw[<- hb,<- e1,<- e2,<- e3,<- e4,<- e5,<- e6];rfl
     clear hps;rcases(show k=5∨k=6∨k=7∨k=8 by omega)with e|e|e|e
     all_goals first|refine cg (v':= .bool true) rfl rfl rfl rfl (congrArg Value.bool (by rw[e];decide)) ?_|(refine cg (v':= .bool false) rfl rfl rfl rfl (congrArg Value.bool (by rw[e];decide)) ?_;refine kG ?_;first|refine cg (v':= .bool true) rfl rfl rfl rfl (congrArg Value.bool (by rw[e];decide)) ?_|(refine cg (v':= .bool false) rfl rfl rfl rfl (congrArg Value.bool (by rw[e];decide)) ?_;refine kG ?_;first|refine cg (v':= .bool true) rfl rfl rfl rfl (congrArg Value.bool (by rw[e];decide)) ?_|(refine cg (v':= .bool false) rfl rfl rfl rfl (congrArg Value.bool (by rw[e];decide)) ?_;refine kG ?_;refine cg (v':= .bool true) rfl rfl rfl rfl (congrArg Value.bool (by rw[e];decide)) ?_)))
     all_goals refine kW ?_
     all_goals(first|refine aG (i:=0) (cs':=[.val (.int .i64 p)]) (by omega) (bf i0) (Nat.zero_lt_succ 0) rfl rfl rfl rfl rfl rfl rfl rfl ?_|refine bc rfl rfl rfl ?_)
     all_goals refine kO2 ?_
     all_goals(first|refine aG (i:=2) (cs':=[.val (.int .i64 r)]) (by omega) (bf i2) (Nat.zero_lt_succ 0) rfl rfl rfl rfl rfl rfl rfl rfl ?_|refine bc rfl rfl rfl ?_)
     all_goals refine kO ?_
     all_goals(first|refine bc rfl rfl rfl ?_|(refine cg (v':= .bool B1) rfl rfl rfl rfl (congrArg Value.bool e1) ?_;cases B1))
     all_goals refine kO2 ?_
     all_goals(first|refine aG (i:=1) (cs':=[.val (.int .i64 q)]) (by omega) (bf i1) (Nat.zero_lt_succ 0) rfl rfl rfl rfl rfl rfl rfl rfl ?_|refine bc rfl rfl rfl ?_)
     all_goals refine kO2 ?_
     all_goals(first|refine aG (i:=3) (cs':=[.val (.int .i64 t)]) (by omega) (bf i3) (Nat.zero_lt_succ 0) rfl rfl rfl rfl rfl rfl rfl rfl ?_|refine bc rfl rfl rfl ?_)
     all_goals refine kO ?_
     all_goals(first|refine bc rfl rfl rfl ?_|(refine cg (v':= .bool B2) rfl rfl rfl rfl (congrArg Value.bool e2) ?_;cases B2))
     all_goals refine kO3 ?_
     all_goals(first|refine aG (i:=0) (cs':=[.val (.int .i64 p)]) (by omega) (bf i0) (Nat.zero_lt_succ 0) rfl rfl rfl rfl rfl rfl rfl rfl ?_|refine bc rfl rfl rfl ?_)
     all_goals refine kO2 ?_
     all_goals(first|refine aG (i:=3) (cs':=[.val (.int .i64 t)]) (by omega) (bf i3) (Nat.zero_lt_succ 0) rfl rfl rfl rfl rfl rfl rfl rfl ?_|refine bc rfl rfl rfl ?_)
     all_goals refine kO ?_
     all_goals(first|refine bc rfl rfl rfl ?_|(refine cg (v':= .bool B3) rfl rfl rfl rfl (congrArg Value.bool e3) ?_;cases B3))
     all_goals refine kO2 ?_
     all_goals(first|refine aG (i:=1) (cs':=[.val (.int .i64 q)]) (by omega) (bf i1) (Nat.zero_lt_succ 0) rfl rfl rfl rfl rfl rfl rfl rfl ?_|refine bc rfl rfl rfl ?_)
     all_goals refine kO2 ?_
     all_goals(first|refine aG (i:=2) (cs':=[.val (.int .i64 r)]) (by omega) (bf i2) (Nat.zero_lt_succ 0) rfl rfl rfl rfl rfl rfl rfl rfl ?_|refine bc rfl rfl rfl ?_)
     all_goals refine kO ?_
     all_goals(first|refine bc rfl rfl rfl ?_|(refine cg (v':= .bool B4) rfl rfl rfl rfl (congrArg Value.bool e4) ?_;cases B4))
     all_goals refine kO3 ?_
     all_goals refine kG ?_
     all_goals refine kO ?_
     all_goals(first|refine aG (i:=0) (cs':=[.val (.int .i64 p)]) (by omega) (bf i0) (Nat.zero_lt_succ 0) rfl rfl rfl rfl rfl rfl rfl rfl ?_|refine bc rfl rfl rfl ?_)
     all_goals refine kO2 ?_
     all_goals(first|refine aG (i:=1) (cs':=[.val (.int .i64 q)]) (by omega) (bf i1) (Nat.zero_lt_succ 0) rfl rfl rfl rfl rfl rfl rfl rfl ?_|refine bc rfl rfl rfl ?_)
     all_goals refine kO ?_
     all_goals(first|refine bc rfl rfl rfl ?_|(refine cg (v':= .bool N5) rfl rfl rfl rfl (congrArg Value.bool e5) ?_;cases N5))
     all_goals refine kO2 ?_
     all_goals(first|refine aG (i:=2) (cs':=[.val (.int .i64 r)]) (by omega) (bf i2) (Nat.zero_lt_succ 0) rfl rfl rfl rfl rfl rfl rfl rfl ?_|refine bc rfl rfl rfl ?_)
     all_goals refine kO2 ?_
     all_goals(first|refine aG (i:=3) (cs':=[.val (.int .i64 t)]) (by omega) (bf i3) (Nat.zero_lt_succ 0) rfl rfl rfl rfl rfl rfl rfl rfl ?_|refine bc rfl rfl rfl ?_)
     all_goals refine kO ?_
     all_goals(first|refine bc rfl rfl rfl ?_|(refine cg (v':= .bool N6) rfl rfl rfl rfl (congrArg Value.bool e6) ?_;cases N6))
     all_goals refine kW ?_
     all_goals refine bV (T:=TT) rfl ?_
     all_goals exact congrArg (fun b=>RV.one (dB b)) (by rw[<- hb];simp)
    ·rw[if_neg h6]at hb
     exact PC
   ·have h6:¬(5<=k/\k<=8):=fun h=>by have:=h59 h.1 h.2;cases this
    rw[if_neg h6]at hb
    refine kO2 ?_
    by_cases s1:s=1
    ·refine kB false ?_ ?_
     ·exact(by simp[s1])
     rw[show xm true s=true by simp[xm,s1],Bool.true_and]at hb
     iterate 3 refine kG ?_
     exact PC
    ·refine kB true ?_ ?_
     ·exact(by simp[s1])
     refine kO4 ?_
     by_cases s2:s= -1
     ·refine kB false ?_ ?_
      ·exact(by simp[s2])
      rw[show xm true s=true by simp[xm,s2],Bool.true_and]at hb
      iterate 3 refine kG ?_
      exact PC
     ·refine kB true ?_ ?_
      ·exact(by simp[s2])
      refine fR ?_;exact congrArg (fun b=>RV.one (dB b)) (by rw[<- hb];simp[xm,s1,s2])
def Uh (a b:Cn):Bool:=decide (a.k=b.k) && (decide (a.s=b.s) && (decide (a.ps=b.ps) && (decide (a.cs=b.cs) && (decide (a.vs.length=b.vs.length) && rA a.vs b.vs))))
theorem pq {xs ys:List Int} (hl:xs.length<=1000000):aa Tryz.prog 69 [pB xs,pB ys] (.one (dB (decide (xs=ys)))):=by
 by_cases hxy:xs.length=ys.length
 ·obtain⟨b,hb⟩:∃b,decide (xs=ys)=b:=⟨_,rfl⟩
  rw[hb];refine kU func69 ?_;refine mH ?_;refine kB false ?_ ?_
  ·exact(by simp[hxy])
  refine kW ?_;refine ay Nat (fun j=>j<=xs.length/\ ∀i,i<j->xs[i]? =ys[i]?) (fun j=>⟨[(0, .d (pB xs)),(1, .d (pB ys)),(5, .d (dN .i64 j))],[]⟩) (fun j=>xs.length-j) 0 ⟨Nat.zero_le _,fun i h=>absurd h (Nat.not_lt_zero _)⟩ kw ?_;rintro j ⟨hj,hall⟩;refine kI ?_
  refine kO3 ?_
  by_cases hlt:j<xs.length
  ·refine kT ?_
   have hlt':j<ys.length:=by omega
   refine kW ?_;refine aG (i:=j) (cs':=[AV.val (.int .i64 xs[j])]) hlt (bf (by simp[hlt])) (Nat.lt_succ_self 0) rfl rfl rfl rfl rfl rfl rfl rfl ?_;refine kW ?_;refine aG (i:=j) (cs':=[AV.val (.int .i64 ys[j])]) hlt' (bf (by simp[hlt'])) (Nat.lt_succ_self 0) rfl rfl rfl rfl rfl rfl rfl rfl ?_;refine kO ?_
   by_cases he:xs[j]=ys[j]
   ·refine kB false ?_ ?_
    ·exact(by simp[he])
    refine kW ?_;refine⟨j+1,⟨hlt,fun i hi=>?_⟩,by omega,weak ⟨rfl,rfl,an (by omega) (by omega),trivial⟩ trivial rfl⟩;rcases Nat.lt_succ_iff_lt_or_eq.1 hi with h3|rfl
    ·exact hall i h3
    ·rw[List.getElem?_eq_getElem hlt,List.getElem?_eq_getElem hlt',he]
   ·have hne:b=false:=by rw[<- hb];exact decide_eq_false fun e=>he (by subst e;rfl)
    cases b
    ·refine kB true ?_ ?_
     ·exact(by simp[he])
     exact ap
    ·cases hne
  ·have he:b=true:=by
    rw[<- hb];refine decide_eq_true (List.ext_getElem? fun i=>?_);exact CX
   cases b
   ·cases he
   ·refine kE ?_
    exact ap
 ·rw[decide_eq_false (fun e=>hxy (by rw[e]))]
  refine kU func69 ?_;refine mH ?_;refine pU ?_;exact ap
theorem wM (a b:Cn) (h1:a.ps.length<=1000000) (h2:a.cs.length<=1000000) (h3:a.vs.length<=1000000) (hv:∀x∈a.vs,∀y∈b.vs,aa Tryz.prog 70 [dR x,dR y] (.one (dB (G5 x y)))):aa Tryz.prog 28 [dC a,dC b] (.one (dB (Uh a b))):=by
 obtain⟨k,ps,cs,vs,s⟩:=a;obtain⟨k',ps',cs',vs',s'⟩:=b;have cP:=pq (ys:=ps') h1;have cQ:=pq (ys:=cs') h2;have hall:=mT vs vs';obtain⟨z,hz⟩:∃z,Uh ⟨k,ps,cs,vs,s⟩ ⟨k',ps',cs',vs',s'⟩=z:=⟨_,rfl⟩;rw[hz];unfold Uh at hz;dsimp only at *;show aa Tryz.prog _ [.agg (cC k ps cs vs s), .agg (cC k' ps' cs' vs' s')] _;generalize decide (ps=ps')=A at *;generalize decide (cs=cs')=B at *;refine kU func28 ?_;refine kR ?_;refine kI ?_
 refine kO4 ?_
 by_cases e1:k=k'
 rotate_left
 ·refine kB true ?_ ?_
  ·exact(by simp[e1])
  refine fR ?_;exact congrArg (fun b=>RV.one (dB b)) (by rw[<- hz,decide_eq_false e1];rfl)
 refine kB false ?_ ?_
 ·exact(by simp[e1])
 refine kO5 ?_
 by_cases e2:s=s'
 rotate_left
 ·refine kB true ?_ ?_
  ·exact(by simp[e2])
  refine fR ?_;exact congrArg (fun b=>RV.one (dB b)) (by rw[<- hz,decide_eq_false e2];simp)
 refine kB false ?_ ?_
 ·exact(by simp[e2])
 iterate 6 refine kO ?_
 refine kC (cP) ?_;cases A
 ·refine fR ?_
  exact congrArg (fun b=>RV.one (dB b)) (by rw[<- hz];simp)
 iterate 7 refine kO ?_
 refine kC (cQ) ?_;cases B
 ·refine fR ?_
  exact congrArg (fun b=>RV.one (dB b)) (by rw[<- hz];simp)
 iterate 9 refine kO ?_
 rw[decide_eq_true e1,decide_eq_true e2]at hz
 by_cases e3:vs.length=vs'.length
 rotate_left
 ·refine pU ?_
  refine fR ?_;exact congrArg (fun b=>RV.one (dB b)) (by rw[<- hz,decide_eq_false e3];simp)
 refine kB false ?_ ?_
 ·exact(by simp[e3])
 rw[decide_eq_true e3]at hz;have hall:=hall e3;have hz:rA vs vs'=z:=hz;rw[hz]at hall;clear hz;refine kW ?_;refine ay Nat (fun i=>i<=vs.length/\ ∀(q:Nat) x y,q<i->vs[q]? =some x->vs'[q]? =some y->G5 x y=true) (fun i=>⟨[(2, .box 0 0),(3, .box 1 0),(5, .d (dN .i64 i))],[(0,some (cC k ps cs vs s)),(1,some (cC k' ps' cs' vs' s'))]⟩) (fun i=>vs.length-i) 0 ⟨Nat.zero_le _,fun q x y h=>absurd h (Nat.not_lt_zero _)⟩ kw ?_;rintro i ⟨hi,hq⟩;refine kI ?_
 refine kO4 ?_
 by_cases hlt:i<vs.length
 ·refine kT ?_
  have hlt':i<vs'.length:=by omega
  obtain⟨o1,na1,xs1,nb1,ys1,nm1,n1,cs1,hA⟩:=aM vs[i];obtain⟨o2,na2,xs2,nb2,ys2,nm2,n2,cs2,hA2⟩:=aM vs'[i];have hx:vs[i]? =some vs[i]:=by simp[hlt]
  have hy:vs'[i]? =some vs'[i]:=by simp[hlt']
  have hat:∀(j:Nat) (a:AV),(ab o1 na1 xs1 nb1 ys1 nm1 n1 cs1)[j]? =some a->(dY vs)[i*7+j]? =some a:=fun j a h=>dP vs i vs[i] hx j a (by rw[hA];exact h)
  have hat':∀(j:Nat) (a:AV),(ab o2 na2 xs2 nb2 ys2 nm2 n2 cs2)[j]? =some a->(dY vs')[i*7+j]? =some a:=fun j a h=>dP vs' i vs'[i] hy j a (by rw[hA2];exact h)
  have c:=hv vs[i] (List.getElem_mem hlt) vs'[i] (List.getElem_mem hlt');rw[show dR vs[i]= .agg (ab o1 na1 xs1 nb1 ys1 nm1 n1 cs1) from congrArg DV.agg hA,show dR vs'[i]= .agg (ab o2 na2 xs2 nb2 ys2 nm2 n2 cs2) from congrArg DV.agg hA2]at c;refine kG ?_
  refine kO3 ?_
  refine DY ?_
  refine kO4 ?_
  refine OY ?_;refine kO ?_;have hw:=fun h=>hall.1 h i _ _ hx hy
  obtain⟨E,hE⟩:∃E,G5 vs[i] vs'[i]=E:=⟨_,rfl⟩;rw[hE]at c hw;cases E
  ·refine kC (c) ?_
   refine fR ?_;exact congrArg (fun b=>RV.one (dB b)) (by cases z;rfl;exact hw rfl)
  ·refine kC (c) ?_
   refine kW ?_
   exact⟨i+1,⟨hlt,fun q x y h1 h2 h3=>by
    by_cases e:q=i
    ·subst e;rw[hx]at h2;rw[hy]at h3;cases h2;cases h3;exact hE
    ·exact hq q x y (by omega) h2 h3⟩,by omega,weak ⟨rfl,rfl,an (by omega) (by omega),trivial⟩ ⟨rfl,rfl,trivial⟩ rfl⟩
 ·have hB:z=true:=hall.2 fun q x y h2 h3=>hq q x y (by have:=(List.getElem?_eq_some_iff.1 h2).1;omega) h2 h3
  refine kE ?_;refine fR ?_;exact congrArg (fun b=>RV.one (dB b)) hB.symm
def RR (c:Cn):Bool:=c.vs.all (fun x=>decide (tl x 120<=120) && qm x) && (decide (c.ps.length<=10) && (decide (c.cs.length<=10) && decide (c.vs.length<=4)))
theorem vG (c:Cn) (hw:R8 c) (h1:c.ps.length<=9223372036854775807) (h2:c.cs.length<=9223372036854775807) (h3:c.vs.length<=9223372036854775807):aa Tryz.prog 16 [dC c] (.one (dB (RR c))):=by
 have hv:=fun x hx=>wh x (hw.vs x hx)
 obtain⟨z,hz⟩:∃z,RR c=z:=⟨_,rfl⟩;rw[hz];unfold RR at hz;obtain⟨k,ps,cs,vs,s⟩:=c;dsimp only at *;refine JL ?_;refine kV func16 ?_;refine ay Nat (fun i=>i<=vs.length/\ ∀x∈vs.take i,(decide (tl x 120<=120) && qm x)=true) (fun i=>⟨[(1, .box 0 0),(3, .d (dN .i64 i))],[(0,some (cC k ps cs vs s))]⟩) (fun i=>vs.length-i) 0 ⟨Nat.zero_le _,by simp⟩ kw ?_;rintro i ⟨hi,hn⟩;refine kI ?_
 refine kO4 ?_
 by_cases hlt:i<vs.length
 ·refine kT ?_
  obtain⟨x,hx⟩:∃x,vs[i]? =some x:=⟨vs[i],by simp[hlt]⟩;have cV:=hv x (List.mem_of_getElem? hx);have hat:=dP vs i x hx;obtain⟨o1,na1,xs1,nb1,ys1,nm1,n1',cs1,hX⟩:=aM x;rw[show dR x= .agg (ab o1 na1 xs1 nb1 ys1 nm1 n1' cs1) from congrArg DV.agg hX]at cV;rw[hX]at hat;obtain⟨E,hE⟩:∃E,(decide (tl x 120<=120) && qm x)=E:=⟨_,rfl⟩;rw[hE]at cV;refine kG ?_
  refine kO3 ?_
  refine Kx ?_;refine kO ?_;cases E
  ·refine kC (cV) ?_
   refine fR ?_;refine congrArg (fun b=>RV.one (dB b)) ?_
   rw[<- hz,show vs.all (fun x=>decide (tl x 120<=120) && qm x)=false from Bool.eq_false_iff.2 fun h=>by
    have:=List.all_eq_true.1 h x (List.mem_of_getElem? hx);rw[hE]at this;cases this]
   rfl
  ·refine kC (cV) ?_
   refine kW ?_;refine⟨i+1,⟨hlt,?_⟩,by omega,weak ⟨rfl,an (by omega) (by omega),trivial⟩ ⟨rfl,trivial⟩ rfl⟩;rw[bn hx];intro y hy;rcases List.mem_append.1 hy with hy|hy
   ·exact hn y hy
   ·rw[List.mem_singleton.1 hy];exact hE
 ·refine kE ?_
  rw[List.take_of_length_le (by omega)]at hn;rw[List.all_eq_true.2 hn,Bool.true_and]at hz;refine kG ?_
  refine kO3 ?_
  by_cases g1:ps.length<=10
  rotate_left
  ·refine kE ?_
   refine fR ?_;exact congrArg (fun b=>RV.one (dB b)) (by rw[<- hz,decide_eq_false g1];rfl)
  refine kT ?_
  refine kO4 ?_
  by_cases g2:cs.length<=10
  rotate_left
  ·refine kE ?_
   refine fR ?_;exact congrArg (fun b=>RV.one (dB b)) (by rw[<- hz,decide_eq_false g2];simp)
  refine kT ?_
  refine kO5 ?_
  by_cases g3:vs.length<=4
  rotate_left
  ·refine kE ?_
   refine fR ?_;exact congrArg (fun b=>RV.one (dB b)) (by rw[<- hz,decide_eq_false g3];simp)
  refine kX ?_;refine bV (T:=TT) rfl ?_;exact congrArg (fun b=>RV.one (dB b)) (by rw[<- hz];simp[g1,g2,g3])
theorem QD:Tryz.prog.globalNamed "strconv.ErrSyntax" =some 6:=by kernel_rfl
theorem Qt:(Tryz.prog.globals[6]?).map (·.type)=some 142:=by kernel_rfl
theorem P9:Tryz.prog.globalNamed "strconv.ErrRange" =some 7:=by kernel_rfl
theorem Qc:(Tryz.prog.globals[7]?).map (·.type)=some 142:=by kernel_rfl
theorem yX {laid:List (String × DataW Unit)} {ps:List MemPlace} {W:World} {name nm:String} {d:DataW Unit} {g:Nat} (hv:DataW.LaidVars Tryz.prog W laid ps) (hm:(name, .iface nm d)∈laid) (hg:Tryz.prog.globalNamed name=some g) (ht:(Tryz.prog.globals[g]?).map (·.type)=some 142):
 ∃ev,W.cell? ⟨g,0,none⟩=some ev/\(ev= .nilIface∨ ∃te pe,ev= .iface te pe):=by
 obtain⟨g',t,cs,fuel,p,h1,h2,h3,h4⟩:=gc hv hm;obtain rfl:=Option.some.inj (hg.symm.trans h1);obtain rfl:=Option.some.inj (ht.symm.trans h2);obtain⟨_,u,v,e,_⟩:=iface_of_trod underlying142 h4;refine⟨.iface u v,?_, .inr ⟨u,v,rfl⟩⟩;have h:=World.var?_cell hg h3 0;obtain⟨l⟩:=cs;dsimp only at e;subst e
 simpa using h
set_option maxRecDepth 100000 in
theorem xY {W:World} (h:W.ShapedOpen Tryz.prog):∃m,W.cell? ⟨3,0,none⟩=some (.int .i64 m):=
 Go.Proofs.cell_of_shapedOpen_int (zero:= #[.int .i64 0]) (t:=3) h (of_decide_eq_true (by kernel_rfl)) (by kernel_rfl) rfl (by kernel_rfl) (by kernel_rfl) underlying3
theorem FB {laid:List (String × DataW Unit)} (hp:(laid.all fun x=>x.2.handleName?.isNone)=true) (hm5:("strconv.ErrSyntax",Rows.laid_strconv_ErrSyntax)∈laid) (hm6:("strconv.ErrRange",Rows.laid_strconv_ErrRange)∈laid) {W:World} (hs:W.ShapedOpen Tryz.prog) (h:laidMetH Tryz.prog laid W):om W:=by
 rw[MakeChecks.laidMetH_plain _ _ _ hp]at h;obtain⟨ps,hv,_⟩:=h;exact⟨xY hs,yX hv hm5 QD Qt,yX hv hm6 P9 Qc⟩
section
variable {H:Type} {enc:TypeId × Value->H}
theorem mM {a:Assume} {C:Checked} {os:Os} {f:FuncId} {fn:Func} {s:ChangeSpec} {conds:List PathCond} {apart fresh handsOn again:Bool} {X:World->Array Value->Prop}
 (hX:∀(w w':World) (args:Array Value),w.heap=w'.heap->X w args->X w' args)
 (own:ownKnob C.prog.godebug=none) (started:os.Started) (noInit:C.prog.inits.idxOf? f=none) (hfn:C.prog.funcs[f]? =some fn)
 (witness:∃(w:World) (tape:Tape) (i:Input),w.os=os/\(w.forCall tape i).Shaped C.prog/\i.vars=[]/\Input.okWide C.prog (w.forCall tape i) .any w.heap.size f i /\
  ((s.pre enc C.prog fn conds apart (w.forCall tape i).memory i.args/\X (w.forCall tape i).memory i.args)/\sizedMet enc C.prog fn (OpenSpec.ofChange s) apart (w.forCall tape i).memory i.args)/\a.holds C.prog (lone (Frame.enter C.prog f i.args .normal) [] (w.forCall tape i)))
 (contract:∀(W:World) (base:Nat) (args:Array Value) (ds gs:List (DataW H)) (before:List MemPlace),
  (∀(j:Nat) t v,fn.params[j]? =some t->args[j]? =some v->Value.okWide C.prog W .any base t v) ->
  DataW.Whole enc C.prog fn.params.toList s.vars apart W args.toList ds gs before ->
  conds.all (PathCond.test C.prog ⟨fn.params.toList,ds,s.plain.varTypes C.prog,gs⟩)=true ->
  W.ShapedOpen C.prog->X W args ->
  a.holds C.prog (lone (Frame.enter C.prog f args .normal) [] W) ->
  Calls C.prog f args W fun e W'=>∃v,e= .returned v/\s.post enc C.prog fn apart fresh handsOn again W args v W'):
 ReturnsInHanded a C os f .any (fun w args=>(s.pre enc C.prog fn conds apart w args/\X w args)/\sizedMet enc C.prog fn (OpenSpec.ofChange s) apart w args) (s.post enc C.prog fn apart fresh handsOn again):=by
 refine returnsInHanded_of_calls own started noInit witness ?_;intro w tape i _ hsh _ hok hpre hholds;obtain⟨_,_,_,fn',hfn',_,_,_,_,hval⟩:=hok;obtain rfl:fn'=fn:=Option.some.inj (hfn'.symm.trans hfn);obtain⟨⟨⟨ds,gs,before,hw,hc⟩,hx⟩,hz⟩:=hpre;refine(contract (w.forCall tape i) w.heap.size i.args ds gs before hval (DataW.Whole.of_heap (w':=w.forCall tape i) (by rfl) hw) hc hsh (hX _ _ _ (by rfl) hx) hholds).mono fun e W' ⟨v,he,hp⟩=>?_
 subst he;exact ChangeSpec.post_blind hp
end
theorem Ce {S:Nat->Prop} {w:World} {n:Nat} {cs:List AV} {v:Value} (h:AV.M S w (.sl n cs) v):n<=9223372036854775807:=by
 cases h with
 |emp a b _=>omega
 |sl f a b _ _ _ _=>omega
structure VO (c:Cn):Prop where
 p:c.ps.length<=9223372036854775807
 q:c.cs.length<=9223372036854775807
 v:c.vs.length<=9223372036854775807
theorem Vm {S:Nat->Prop} {w:World} {c:Cn} {v:Value} (h:DV.M S w (dC c) v):VO c:=by
 obtain⟨vs,_,hl,hm⟩:=h;have h5:vs.length=5:=hl.symm;have hg:∀i (hi:i<5),vs[i]? =some (vs[i]'(by omega)):=fun i hi=>List.getElem?_eq_getElem _
 exact⟨Ce (hm 1 _ _ rfl (hg 1 (by decide))),Ce (hm 2 _ _ rfl (hg 2 (by decide))),Ce (hm 3 _ _ rfl (hg 3 (by decide)))⟩
theorem MO {P:Program} {f:FuncId} {c:Cn} {ds:List DV} {r:RV} (hent:∀args w,(callFunc f args).run P w= .ok (.enter f args) w) (h:VO c->aa P f (dC c::ds) r):aa P f (dC c::ds) r:=
 ⟨hent,fun S w vs hS hv=>by
  match vs,hv with
  |v::vs,⟨h1,h2⟩=>exact(h (Vm h1)).calls S w _ hS ⟨h1,h2⟩⟩
structure RJ (c:Cn):Prop where
 p:c.ps.length<=10
 q:c.cs.length<=10
 v:c.vs.length<=4
 x:∀x∈c.vs,Fg x
theorem ME {c:Cn} (hw:R8 c) (h:RR c=true):RJ c:=by
 unfold RR at h
 simp only[Bool.and_eq_true,decide_eq_true_eq,List.all_eq_true]at h
 obtain⟨h1,h2,h3,h4⟩:=h;exact⟨h2,h3,h4,fun x hx=>⟨hw.vs x hx,(h1 x hx).2,by rw[<- (vu x 120).2.2 (h1 x hx).1];exact(h1 x hx).1⟩⟩
theorem RJ.valid {c:Cn} (h:RJ c) (P Q:Int):aa Tryz.prog 17 [dC c,dN .i64 P,dN .i64 Q] (.one (dB (De c P Q))):=lX c P Q (by have:=h.p;omega) (by have:=h.q;omega) (by have:=h.v;omega) fun x hx=>gW x (h.x x hx).wd (h.x x hx).lm (by have:=(h.x x hx).sz;omega)
theorem RJ.rvalid {c:Cn} (h:RJ c) (P Q:Int):aa Tryz.prog 18 [dC c,dN .i64 P,dN .i64 Q] (.one (dB (De c P Q))):=vS c P Q (by have:=h.p;omega) (by have:=h.q;omega) (by have:=h.v;omega) fun x hx=>mI x (h.x x hx).wd (h.x x hx).lm (by have:=(h.x x hx).sz;omega)
section
variable {P:Program} {T:TypeId->Option Ty} {n:Nat} {ops:Array Oper} {id:Nat} {draw:Bool} {K:AS->Prop} {s:AS} {k:Nat} {o:Oper} {os:List Oper} {fps:List FP}
theorem Br {z:Int} (h0:0<=z) (h1:z<128):Utf8.encode z=Bs [UInt8.ofNat z.toNat]:=by
 have hv:Utf8.valid z=true:=by
  unfold Utf8.valid
  simp
  omega
 unfold Utf8.encode
 simp only[hv,if_true]
 rw[if_pos (by omega)];rfl
theorem TM (hT:∀t d,T t=some d->a8 P t d) {t t':TypeId} {ty ty':Ty} {x:Operand} {q:IntKind} {z:Int} {c:UInt8} (hc:0<=z/\z<128/\UInt8.ofNat z.toNat=c) (h1:gd ops s o=some true) (h2:o.op= .convert t t' x) (h5:T t=some ty) (h9:T t'=some ty') (h10:ty'.isStr=true) (h11:s.ev x= .d (.leaf (.val (.int q z))))
 (h3:aL n o.dst=true) (h4:fh draw ops (aB ops o ⟨.d (dL [c]),none⟩ []) k fps=true) (h:au P T n ops id draw K (k+1) os (s.eff o.dst ⟨.d (dL [c]),none⟩) (aB ops o ⟨.d (dL [c]),none⟩ []::fps)):au P T n ops id draw K k (o::os) s fps:=by
 refine .run h1 (.gen fun s2 ht _=>?_) h3 h4 h;have hx:=(ax ht (x:=x) (by simp[h2,Op.operands])).trans h11;have hu:=lQ (hT _ _ h9) h10;obtain⟨d,hd,_⟩:=(hT _ _ h5).und;refine am fun n S0 w0 g a w hM=>⟨vL [c],w,?_,Below.refl _ _,AV.M.val rfl⟩
 unfold execOp;rw[h2]
 simp only[bg hM hx,Sem.run_bind,run_convert_int_string w t t' q z (by rw[hd];rfl) hu,Result.andThen_ok,Br hc.1 hc.2.1,hc.2.2]
 rfl
end
theorem JE {n a:Nat} {t:L8} (hI:(t=[]/\a=n)∨(t≠[]/\fmt n=i8 a++t)) (h:t=[]∨0<a):fmt n=i8 (a/10)++dg (a%10)::t:=by
 have hp:0<a->i8 a=i8 (a/10)++[dg (a%10)]:=fun h=>de (by omega)
 rcases hI with⟨rfl,rfl⟩| ⟨hn,he⟩
 ·by_cases h0:a=0
  ·subst h0;rw[cH];rfl
  ·rw[<- List.append_nil (i8 (a/10)++_),List.append_assoc]
   have:fmt (a:Int)=i8 a:=by
    unfold fmt;rw[if_neg (by omega),if_neg (by omega)];rfl
   rw[this,hp (by omega)]
   simp
 ·rw[he,hp (h.resolve_left hn)]
  simp
theorem lC {z:Int} (h0:0<=z) (h1:z<200):aa Tryz.prog 67 [dN .i64 z] (.one (dL (fmt z))):=by
 have hl:=kH h0 h1;obtain⟨n,rfl⟩:=Int.eq_ofNat_of_zero_le h0;refine kV func67 ?_;refine ay (Nat × L8) (fun p=>p.1<=n/\((p.2=[]/\p.1=n)∨(p.2≠[]/\fmt n=i8 p.1++p.2))) (fun p=>⟨[(0, .d (dN .i64 p.1)),(3, .d (dL p.2))],[]⟩) (fun p=>p.1+(if p.2=[]then 1 else 0)) (n,[]) ⟨Nat.le_refl _, .inl ⟨rfl,rfl⟩⟩ kw ?_;rintro⟨a,t⟩ ⟨ha,hI⟩;dsimp only at ha hI ⊢;have hm10:a%10<10:=Nat.mod_lt _ (by decide)
 have hst:=JE hI
 by_cases ht:t=[]
 ·have hst:=hst (.inl ht)
  have hsl:=congrArg List.length hst;rw[List.length_append,List.length_cons]at hsl;refine kI ?_;refine kO ?_;refine aq rfl rfl rfl rfl rfl rfl rfl (bv (a:=t) (b:=[]) ht) ?_;refine tt ?_;rw[if_pos ht,if_neg (by simp)];omega
 ·by_cases h9:0<a
  ·have hst:=hst (.inr h9)
   have hsl:=congrArg List.length hst;rw[List.length_append,List.length_cons]at hsl;refine kI ?_;refine kO ?_;refine aq rfl rfl rfl rfl rfl rfl rfl (bL (a:=t) (b:=[]) ht) ?_
   refine kO2 ?_
   refine kT ?_;refine tt ?_;rw[if_neg ht,if_neg (by simp)];omega
  ·have he:fmt n=t:=by
    rcases hI with⟨h,_⟩| ⟨_,h⟩
    ·exact absurd h ht
    ·rw[h,show a=0 by omega,cH];rfl
   refine kI ?_;refine kO ?_;refine aq rfl rfl rfl rfl rfl rfl rfl (bL (a:=t) (b:=[]) ht) ?_;refine tK ?_;rw[he];exact bV (T:=TT) rfl rfl
def pN (l:List L8):L8:=l.flatMap fun w=>32::w
theorem CT (x:L8):∀l:List L8,Lib.join (x::l) [32]=x++pN l:=by
 intro l
 induction l generalizing x with
 |nil=>rw[Lib.join_one];simp[pN]
 |cons y r ih=>rw[gu,ih y];simp[pN]
theorem Cw (a b:List L8):pN (a++b)=pN a++pN b:=by simp[pN]
theorem vq {m:Nat}:∀{l:List L8},(∀w∈l,w.length<=m)->(pN l).length<=(m+1)*l.length
 | [],_=>Nat.le_refl _
 |w::l,h=>by
  have h1:=h w (by simp);have h2:=vq (l:=l) fun w hw=>h w (by simp[hw])
  have e:pN (w::l)=32::w++pN l:=by simp[pN]
  rw[e,List.length_append,List.length_cons,List.length_cons,Nat.mul_add];omega
theorem DE {m:Nat}:∀(us ts:List L8),(∀t∈us,t.length<=m)->(xl (ts++us)).length<=(xl ts).length+(m+3)*us.length
 | [],ts,_=>by rw[List.append_nil];exact Nat.le_refl _
 |u::us,ts,h=>by
  have h1:=h u (by simp);have h2:=DE us (ts++[u]) fun t ht=>h t (by simp[ht])
  rw[m6,List.length_append,List.length_append,List.append_assoc]at h2;have h3:(if ts=[]then [32,61,32]else [44,32]:L8).length<=3:=by split <;>simp
  rw[List.length_cons,Nat.mul_add]
  simp only[List.cons_append,List.nil_append]at h2
  omega
theorem Gf (k:Int):(f9 k).length<=7/\(gw k).length<=7:=by
 unfold f9 gw
 constructor <;>split <;>simp
theorem Ig (nm:L8) (A:List L8) (w:L8):nm++pN (A++[w])=(nm++pN A)++32::w:=by simp[pN]
theorem sZ {z:Int} (h:0<=z/\z<200):(lz z).length<=4/\(og z).length<=4:=by
 have:=kH h.1 h.2;unfold lz og
 simp
 omega
theorem xC {c:Cn} {r:Kd} (h:IJ c r 200 200) (tx:Rx->L8) (cT:∀x∈c.vs,aa Tryz.prog 68 [dR x] (.one (dL (tx x)))) (hlen:(pD r c (c.vs.map tx)).length<=65536):aa Tryz.prog 27 [dC c] (.one (dL (pD r c (c.vs.map tx)))):=by
 have hd:=wH h.k;have hpl:=h.pl;have hcl:=h.cl;have hvl:=h.vl;have cO:=uC c.k;rw[h.k]at cO;have hs:=h.s;have hp:=h.p;have hq:=h.c;clear h;obtain⟨k,ps,cs,vs,s⟩:=c;obtain⟨nm,rp,rc,rn,rv,rq,sd⟩:=r;dsimp only at *;unfold pD at hlen ⊢;have hW:Lib.join (xJ ⟨nm,rp,rc,rn,rv,rq,sd⟩ ⟨k,ps,cs,vs,s⟩) [32]=nm++pN (ps.map lz++cs.map og++oN ⟨k,ps,cs,vs,s⟩):=CT _ _;rw[hW]at hlen ⊢;clear hW;refine JL ?_;have cO:aa Tryz.prog 31 [dN .i64 k] (.tup [.agg [.val (vL nm), .val (.int .i64 rp), .val (.int .i64 rc), .val (.int .i64 rn), .val (.int .i64 rv), .val (.int .i64 rq), .val (.bool sd)],dB true]):=cO;refine kV func27 ?_;refine kQ (cO) ?_
 refine ay (Nat × L8) (fun x=>x.1<=ps.length/\x.2=nm++pN ((ps.take x.1).map lz)) (fun x=>⟨[(1, .box 0 0),(3, .box 1006 0),(5, .d (dL x.2)),(6, .d (dN .i64 x.1))],[(0,some (cC k ps cs vs s)),(1006,some [.val (vL nm), .val (.int .i64 rp), .val (.int .i64 rc), .val (.int .i64 rn), .val (.int .i64 rv), .val (.int .i64 rq), .val (.bool sd)])]⟩) (fun x=>ps.length-x.1) (0,nm) ⟨Nat.zero_le _,by simp[pN]⟩ kw ?_;rintro⟨i,u⟩ ⟨hi,hu⟩;dsimp only at hi hu ⊢;refine kI ?_
 refine kO4 ?_
 by_cases hlt:i<ps.length
 ·refine kT ?_
  have hz:=hp _ (List.getElem_mem hlt);have hat:=bf (List.getElem?_eq_getElem hlt);have hu2:u++([32,112]++fmt ps[i])=nm++pN ((ps.take (i+1)).map lz):=by rw[hu,bn (List.getElem?_eq_getElem hlt),List.map_append,Cw,List.append_assoc];simp[pN,lz]
  have hul:u.length<=20+5*i:=by
   have:=vq (m:=4) (l:=(ps.take i).map lz) fun w hw=>by
    obtain⟨z,hz,rfl⟩:=List.mem_map.1 hw;exact(sZ (hp z (List.mem_of_mem_take hz))).1
   rw[List.length_map,List.length_take]at this;rw[hu,List.length_append];omega
  have hf3:=kH hz.1 hz.2;generalize ps[i]=z at *;have cD:=lC hz.1 hz.2;refine QB ?_;refine kO ?_;refine kC (cD) ?_;refine aq rfl rfl rfl rfl rfl rfl rfl (aD (a:=[32,112]) (b:=fmt z) (by simp;omega)) ?_;refine aq rfl rfl rfl rfl rfl rfl rfl (aD (a:=u) (b:=[32,112]++fmt z) (by simp;omega)) ?_;refine kW ?_;exact⟨(i+1,u++([32,112]++fmt z)),⟨hlt,hu2⟩,by dsimp only;omega,weak ⟨rfl,rfl,rfl,an (by omega) (by omega),trivial⟩ ⟨rfl,rfl,trivial⟩ rfl⟩
 refine kE ?_;rw[List.take_of_length_le (by omega)]at hu;refine kW ?_;refine ay (Nat × L8) (fun x=>x.1<=cs.length/\x.2=nm++pN (ps.map lz++(cs.take x.1).map og)) (fun x=>⟨[(1, .box 0 0),(3, .box 1006 0),(5, .d (dL x.2)),(7, .d (dN .i64 x.1))],[(0,some (cC k ps cs vs s)),(1006,some [.val (vL nm), .val (.int .i64 rp), .val (.int .i64 rc), .val (.int .i64 rn), .val (.int .i64 rv), .val (.int .i64 rq), .val (.bool sd)])]⟩) (fun x=>cs.length-x.1) (0,u) ⟨Nat.zero_le _,by simpa using hu⟩ kw ?_;clear hlt hi hu i u;rintro⟨i,u⟩ ⟨hi,hu⟩;dsimp only at hi hu ⊢
 have hul:u.length<=40+5*i:=by
  have:=vq (m:=4) (l:=ps.map lz++(cs.take i).map og) fun w hw=>by
   rcases List.mem_append.1 hw with hw|hw
   ·obtain⟨z,hz,rfl⟩:=List.mem_map.1 hw
    exact(sZ (hp z hz)).1
   ·obtain⟨z,hz,rfl⟩:=List.mem_map.1 hw
    exact(sZ (hq z (List.mem_of_mem_take hz))).2
  rw[List.length_append,List.length_map,List.length_map,List.length_take]at this;rw[hu,List.length_append];omega
 refine kI ?_
 refine kO4 ?_
 by_cases hlt:i<cs.length
 ·refine kT ?_
  have hz:=hq _ (List.getElem_mem hlt);have hat:=bf (List.getElem?_eq_getElem hlt);have hu2:u++([32,99]++fmt cs[i])=nm++pN (ps.map lz++(cs.take (i+1)).map og):=by rw[hu,bn (List.getElem?_eq_getElem hlt),List.map_append,<- List.append_assoc (ps.map lz),Cw _ (List.map og [cs[i]]),List.append_assoc];simp[pN,og]
  have hf3:=kH hz.1 hz.2;generalize cs[i]=z at *;have cD:=lC hz.1 hz.2;refine QB ?_;refine kO ?_;refine kC (cD) ?_;refine aq rfl rfl rfl rfl rfl rfl rfl (aD (a:=[32,99]) (b:=fmt z) (by simp;omega)) ?_;refine aq rfl rfl rfl rfl rfl rfl rfl (aD (a:=u) (b:=[32,99]++fmt z) (by simp;omega)) ?_;refine kW ?_;exact⟨(i+1,u++([32,99]++fmt z)),⟨hlt,hu2⟩,by dsimp only;omega,weak ⟨rfl,rfl,rfl,an (by omega) (by omega),trivial⟩ ⟨rfl,rfl,trivial⟩ rfl⟩
 refine kE ?_;rw[List.take_of_length_le (by omega)]at hu;refine kG ?_;refine kN ?_;refine u6 ⟨[(1, .box 0 0),(5, .d (dL (nm++pN (ps.map lz++cs.map og++oN ⟨k,ps,cs,vs,s⟩))))],[(0,some (cC k ps cs vs s))]⟩ (fun s' hw=>?_) (fun R hR hret=>?_)
 ·clear hu hul hlt hi cO hp hq hs
  clear i u;generalize nm++pN (ps.map lz++cs.map og++oN ⟨k,ps,cs,vs,s⟩)=W at *;refine bu ?_;refine eT hw rfl ?_;refine kW ?_;refine ay (Nat × L8) (fun x=>x.1<=vs.length/\x.2=W++xl ((vs.take x.1).map tx)) (fun x=>⟨[(1, .box 0 0),(5, .d (dL x.2)),(9, .d (dN .i64 x.1))],[(0,some (cC k ps cs vs s))]⟩) (fun x=>vs.length-x.1) (0,W) ⟨Nat.zero_le _,by simp[xl]⟩ kw ?_;rintro⟨i,u⟩ ⟨hi,hu⟩;dsimp only at hi hu ⊢;refine kI ?_
  refine kO4 ?_
  by_cases hlt:i<vs.length
  ·refine kT ?_
   obtain⟨x,hx⟩:∃x,vs[i]? =some x:=⟨vs[i],by simp[hlt]⟩;have c1:=cT x (List.mem_of_getElem? hx);have hat:=dP vs i x hx
   have hu2:(u++(if i=0 then [32,61,32]else [44,32]))++tx x=W++xl ((vs.take (i+1)).map tx):=by
    rw[bn hx,List.map_append,List.map_cons,List.map_nil,m6,hu,List.append_assoc,List.append_assoc];exact CW
   have hul2:u.length+(tx x).length<=65536:=by
    exact J9
   obtain⟨o1,na1,xs1,nb1,ys1,nm1,n1',cs1,hX⟩:=aM x;rw[show dR x= .agg (ab o1 na1 xs1 nb1 ys1 nm1 n1' cs1) from congrArg DV.agg hX]at c1;rw[hX]at hat;generalize tx x=t at *
   by_cases h0:i=0
   ·rw[if_pos h0]at hu2
    refine kG ?_;refine kO ?_;refine kB true ?_ ?_
    ·exact(by simp[h0])
    refine kG ?_;refine kO ?_;refine aq rfl rfl rfl rfl rfl rfl rfl (aD (a:=u) (b:=[32,61,32]) (by simp;omega)) ?_;refine kW ?_;refine Kx ?_;refine kO ?_;refine kC (c1) ?_;refine aq rfl rfl rfl rfl rfl rfl rfl (aD (a:=u++[32,61,32]) (b:=t) (by simp;omega)) ?_;refine kW ?_;exact⟨(i+1,(u++[32,61,32])++t),⟨hlt,hu2⟩,by dsimp only;omega,weak ⟨rfl,rfl,an (by omega) (by omega),trivial⟩ ⟨rfl,trivial⟩ rfl⟩
   ·rw[if_neg h0]at hu2
    refine kG ?_;refine kO ?_;refine kB false ?_ ?_
    ·exact(by simp[h0])
    refine kG ?_;refine kO ?_;refine aq rfl rfl rfl rfl rfl rfl rfl (aD (a:=u) (b:=[44,32]) (by simp;omega)) ?_;refine kW ?_;refine Kx ?_;refine kO ?_;refine kC (c1) ?_;refine aq rfl rfl rfl rfl rfl rfl rfl (aD (a:=u++[44,32]) (b:=t) (by simp;omega)) ?_;refine kW ?_;exact⟨(i+1,(u++[44,32])++t),⟨hlt,hu2⟩,by dsimp only;omega,weak ⟨rfl,rfl,an (by omega) (by omega),trivial⟩ ⟨rfl,trivial⟩ rfl⟩
  ·refine kE ?_
   rw[List.take_of_length_le (by omega)]at hu;refine fR ?_;rw[hu];rfl
 ·clear hret hlen hp hq cT cO
  cases sd with
  |false=>
   obtain rfl:s=0:=by unfold xm at hs;simpa using hs
   rw[show ps.map lz++cs.map og++oN ⟨k,ps,cs,vs,0⟩=ps.map lz++cs.map og from List.append_nil _,<- hu]at hR;refine kW ?_;exact hR _ kw
  |true=>
   have hs:s=1∨s= -1:=by unfold xm at hs;simpa using hs
   rcases hs with rfl|rfl
   ·rw[show oN ⟨k,ps,cs,vs,1⟩=[f9 k] from rfl,Ig,<- hu]at hR
    unfold f9 at hR;refine kW ?_;refine fU rfl (fun hk=>?_) (fun hk=>?_)
    ·rw[if_pos (of_decide_eq_true hk)]at hR
     refine kW ?_;refine aG (i:=1) (cs':=[.val (vL [32,111,117,116,115,105,100,101])]) (by decide) (@eX [[32,105,110,115,105,100,101],[32,111,117,116,115,105,100,101]] 1 _ rfl) (Nat.zero_lt_succ 0) rfl rfl rfl rfl rfl rfl rfl rfl ?_;refine kO ?_;refine aq rfl rfl rfl rfl rfl rfl rfl (aD (a:=u) (b:=[32,111,117,116,115,105,100,101]) (by simp;omega)) ?_;refine kW ?_;exact hR _ kw
    ·rw[if_neg (of_decide_eq_false hk)]at hR
     refine kW ?_;refine aG (i:=1) (cs':=[.val (vL [32,108,101,102,116])]) (by decide) (@eX [[32,114,105,103,104,116],[32,108,101,102,116]] 1 _ rfl) (Nat.zero_lt_succ 0) rfl rfl rfl rfl rfl rfl rfl rfl ?_;refine kO ?_;refine aq rfl rfl rfl rfl rfl rfl rfl (aD (a:=u) (b:=[32,108,101,102,116]) (by simp;omega)) ?_;refine kW ?_;exact hR _ kw
   ·rw[show oN ⟨k,ps,cs,vs,(-1)⟩=[gw k] from rfl,Ig,<- hu]at hR
    unfold gw at hR;refine kW ?_;refine fU rfl (fun hk=>?_) (fun hk=>?_)
    ·rw[if_pos (of_decide_eq_true hk)]at hR
     refine kW ?_;refine aG (i:=0) (cs':=[.val (vL [32,105,110,115,105,100,101])]) (by decide) (@eX [[32,105,110,115,105,100,101],[32,111,117,116,115,105,100,101]] 0 _ rfl) (Nat.zero_lt_succ 0) rfl rfl rfl rfl rfl rfl rfl rfl ?_;refine kO ?_;refine aq rfl rfl rfl rfl rfl rfl rfl (aD (a:=u) (b:=[32,105,110,115,105,100,101]) (by simp;omega)) ?_;refine kW ?_;exact hR _ kw
    ·rw[if_neg (of_decide_eq_false hk)]at hR
     refine kW ?_;refine aG (i:=0) (cs':=[.val (vL [32,114,105,103,104,116])]) (by decide) (@eX [[32,114,105,103,104,116],[32,108,101,102,116]] 0 _ rfl) (Nat.zero_lt_succ 0) rfl rfl rfl rfl rfl rfl rfl rfl ?_;refine kO ?_;refine aq rfl rfl rfl rfl rfl rfl rfl (aD (a:=u) (b:=[32,114,105,103,104,116]) (by simp;omega)) ?_;refine kW ?_;exact hR _ kw
end Go.Proofs.YtnchbpoopnjghaaGreatDoor
