/- Parts of a proof: contracts of the functions that the laws reach. -/
import Derived.Test.YtnchbpoopnjghaaGreatDoorDZ14
set_option maxHeartbeats 100000000
set_option linter.all false
open Go.Proofs.Tryz
namespace Go.Proofs.YtnchbpoopnjghaaGreatDoor
open Go.RowKit
theorem O8 {vs:List Rx} {i:Nat} {x:Rx} (h:vs[i]? =some x) (hx:jg x≠0):vs.all (fun x=>decide (jg x=0))=false:=Bool.eq_false_iff.2 fun h2=>by
 have:=List.all_eq_true.1 h2 x (List.mem_of_getElem? h);exact hx (of_decide_eq_true this)
theorem LJ {vs:List Rx} (h:∀x∈vs,jg x=0):vs.all (fun x=>decide (jg x=0))=true:=List.all_eq_true.2 fun x hx=>decide_eq_true (h x hx)
theorem Sv:((List.range 4).all fun i=>decide (((nJ[i+4]?).map fun r=>(r.c,r.s))=some (0,false)))=true:=by decide
theorem Qe {k:Int} {r:Kd} (h:oq k=some r) (h1:5<=k) (h2:k<=8):r.s=false:=by
 obtain⟨_,_,h3⟩:=qD h;have:=List.all_eq_true.1 Sv (k.toNat-5) (List.mem_range.2 (by omega));rw[show k.toNat-5+4=k.toNat-1 by omega,h3]at this
 simp at this
 exact this.2
theorem wt (c:Cn) (P Q:Int) (h1:c.ps.length<=1000000) (h2:c.cs.length<=1000000) (h3:c.vs.length<=1000000) (hv:∀x∈c.vs,aa Tryz.prog 48 [dR x] (.one (dN .i64 (jg x)))):aa Tryz.prog 18 [dC c,dN .i64 P,dN .i64 Q] (.one (dB (vA c P Q))):=by
 have cO:=Dw c.k;cases hk:oq c.k with
 |none=>
  rw[hk]at cO;rw[iI hk];obtain⟨k,ps,cs,vs,s⟩:=c;have cO:aa Tryz.prog 31 [dN .i64 k] (.tup [.agg R2,dB false]):=cO;refine Cq ?_;refine kV func18 ?_;refine kC (cO) ?_;exact am
 |some r=>
  rw[hk]at cO;obtain⟨b,hb⟩:∃b,vA c P Q=b:=⟨_,rfl⟩;rw[hb];rw[fF hk]at hb;have h58:5<=c.k->c.k<=8->r.p=4:=yN hk;have h59:5<=c.k->c.k<=8->r.s=false:=Qe hk;obtain⟨k,ps,cs,vs,s⟩:=c;obtain⟨nm,rp,rc,rn,rv,rq,rs⟩:=r;dsimp only at *;have cO:aa Tryz.prog 31 [dN .i64 k] (.tup [.agg (MT ⟨nm,rp,rc,rn,rv,rq,rs⟩),dB true]):=cO;have cA:=lr ps P h1;have cB:=lr cs Q h2;have cF:=iF ps h1;have cG:=iF cs h2;obtain⟨A,hA⟩:∃A,ps.all (kM P)=A:=⟨_,rfl⟩;rw[hA]at cA hb;obtain⟨B,hB⟩:∃B,cs.all (kM Q)=B:=⟨_,rfl⟩;rw[hB]at cB hb;obtain⟨F,hF⟩:∃F,decide ps.Nodup=F:=⟨_,rfl⟩;rw[hF]at cF hb;obtain⟨G,hG⟩:∃G,decide cs.Nodup=G:=⟨_,rfl⟩;rw[hG]at cG hb;show aa Tryz.prog _ [.agg (cC k ps cs vs s),_,_] _
  refine kV func18 ?_;refine kC (cO) ?_;refine kG ?_
  iterate 8 refine kO ?_
  by_cases n1:(ps.length:Int)=rp
  rotate_left
  ·refine kB true ?_ ?_
   ·exact(by simp[n1])
   refine fO ?_;exact congrArg (fun b=>RV.one (dB b)) (by rw[<- hb,decide_eq_false n1];rfl)
  refine kB false ?_ ?_
  ·exact(by simp[n1])
  iterate 7 refine kO ?_
  by_cases n2:(cs.length:Int)=rc
  rotate_left
  ·refine kB true ?_ ?_
   ·exact(by simp[n2])
   refine fO ?_;exact congrArg (fun b=>RV.one (dB b)) (by rw[<- hb,decide_eq_false n2,Bool.false_and,Bool.false_and,Bool.and_false])
  refine kB false ?_ ?_
  ·exact(by simp[n2])
  iterate 7 refine kO ?_
  by_cases n3:(vs.length:Int)=rn
  rotate_left
  ·refine kB true ?_ ?_
   ·exact(by simp[n3])
   refine fO ?_;exact congrArg (fun b=>RV.one (dB b)) (by rw[<- hb,decide_eq_false n3,Bool.false_and,Bool.and_false,Bool.and_false])
  refine kB false ?_ ?_
  ·exact(by simp[n3])
  refine kO5 ?_
  refine kC (cA) ?_;cases A
  ·refine fO ?_
   exact congrArg (fun b=>RV.one (dB b)) (by rw[<- hb,Bool.and_false,Bool.false_and])
  iterate 6 refine kO ?_
  refine kC (cB) ?_;cases B
  ·refine fO ?_
   exact congrArg (fun b=>RV.one (dB b)) (by rw[<- hb,Bool.and_false,Bool.false_and,Bool.and_false])
  rw[decide_eq_true n1,decide_eq_true n2,decide_eq_true n3,Bool.true_and,Bool.true_and,Bool.true_and,Bool.true_and]at hb;refine kW ?_;refine ax Nat (fun i=>i<=vs.length/\ ∀x∈vs.take i,jg x=0) (fun i=>⟨[(3, .box 0 0),(7, .box 1006 0),(9, .d (dN .i64 i))],[(0,some (cC k ps cs vs s)),(1006,some (MT ⟨nm,rp,rc,rn,rv,rq,rs⟩))]⟩) (fun i=>vs.length-i) 0 ⟨Nat.zero_le _,by simp⟩ kw ?_;rintro i ⟨hi,hn⟩;refine kI ?_
  refine kO4 ?_
  by_cases hlt:i<vs.length
  ·refine kT ?_
   obtain⟨x,hx⟩:∃x,vs[i]? =some x:=⟨vs[i],by simp[hlt]⟩;have cV:=hv x (List.mem_of_getElem? hx);have hno:=O8 hx;have hat:=dz vs i x hx;obtain⟨o1,na1,xs1,nb1,ys1,nm1,n1',cs1,hX⟩:=aN x;rw[show dR x= .agg (ab o1 na1 xs1 nb1 ys1 nm1 n1' cs1) from congrArg DV.agg hX]at cV;rw[hX]at hat;refine kG ?_
   refine kO3 ?_
   refine GF ?_;refine kO ?_;refine kC (cV) ?_
   by_cases e:jg x=0
   ·refine kB false ?_ ?_
    ·exact(by simp[e])
    refine kW ?_;refine⟨i+1,⟨hlt,?_⟩,by omega,weak ⟨rfl,rfl,aA (by omega) (by omega),trivial⟩ ⟨rfl,rfl,trivial⟩ rfl⟩;rw[bJ hx];intro y hy;rcases List.mem_append.1 hy with hy|hy
    ·exact hn y hy
    ·rw[List.mem_singleton.1 hy];exact e
   ·refine kB true ?_ ?_
    ·exact(by simp[e])
    refine fO ?_;exact congrArg (fun b=>RV.one (dB b)) (by rw[<- hb,hno e];rfl)
  ·refine kE ?_
   rw[List.take_of_length_le (by omega)]at hn;rw[LJ hn,Bool.true_and]at hb;refine kG ?_
   refine kO3 ?_
   cases rs
   ·iterate 16 refine kO ?_
    by_cases s0:s=0
    rotate_left
    ·refine kB true ?_ ?_
     ·exact(by simp[s0])
     refine fO ?_;exact congrArg (fun b=>RV.one (dB b)) (by rw[<- hb];simp[y7,s0])
    refine kB false ?_ ?_
    ·exact(by simp[s0])
    rw[show y7 false s=true by simp[y7,s0],Bool.true_and]at hb
    iterate 3 refine kG ?_
    by_cases h6:5<=k/\k<=8
    ·rw[if_pos h6]at hb
     obtain⟨p,q,r,t,hps⟩:=CN (l:=ps) (by have:=h58 h6.1 h6.2;omega);have i0:ps[0]? =some p:=by rw[hps];rfl
     have i1:ps[1]? =some q:=by rw[hps];rfl
     have i2:ps[2]? =some r:=by rw[hps];rfl
     have i3:ps[3]? =some t:=by rw[hps];rfl
     have hl:ps.length=4:=by rw[hps];rfl
     rw[hps]at hb;obtain⟨B1,e1⟩:∃B,(p == r)=B:=⟨_,rfl⟩;obtain⟨B2,e2⟩:∃B,(q == t)=B:=⟨_,rfl⟩;obtain⟨B3,e3⟩:∃B,(p == t)=B:=⟨_,rfl⟩;obtain⟨B4,e4⟩:∃B,(q == r)=B:=⟨_,rfl⟩;obtain⟨N5,e5⟩:∃B,(p != q)=B:=⟨_,rfl⟩;obtain⟨N6,e6⟩:∃B,(r != t)=B:=⟨_,rfl⟩;have hb:(N5 && (N6 && (!(B1 && B2) && !(B3 && B4))))=b:=by rw[<- hb,<- e1,<- e2,<- e3,<- e4,<- e5,<- e6];rfl
     clear hps;rcases(show k=5∨k=6∨k=7∨k=8 by omega)with e|e|e|e
     all_goals first|refine bM (v':= .bool true) rfl rfl rfl rfl (congrArg Value.bool (by rw[e];decide)) ?_|(refine bM (v':= .bool false) rfl rfl rfl rfl (congrArg Value.bool (by rw[e];decide)) ?_;refine kG ?_;first|refine bM (v':= .bool true) rfl rfl rfl rfl (congrArg Value.bool (by rw[e];decide)) ?_|(refine bM (v':= .bool false) rfl rfl rfl rfl (congrArg Value.bool (by rw[e];decide)) ?_;refine kG ?_;first|refine bM (v':= .bool true) rfl rfl rfl rfl (congrArg Value.bool (by rw[e];decide)) ?_|(refine bM (v':= .bool false) rfl rfl rfl rfl (congrArg Value.bool (by rw[e];decide)) ?_;refine kG ?_;refine bM (v':= .bool true) rfl rfl rfl rfl (congrArg Value.bool (by rw[e];decide)) ?_)))
     all_goals refine kW ?_
     all_goals(first|refine aH (i:=0) (cs':=[.val (.int .i64 p)]) (by omega) (bn i0) (Nat.zero_lt_succ 0) rfl rfl rfl rfl rfl rfl rfl rfl ?_|refine a7 rfl rfl rfl ?_)
     all_goals refine kO2 ?_
     all_goals(first|refine aH (i:=2) (cs':=[.val (.int .i64 r)]) (by omega) (bn i2) (Nat.zero_lt_succ 0) rfl rfl rfl rfl rfl rfl rfl rfl ?_|refine a7 rfl rfl rfl ?_)
     all_goals refine kO ?_
     all_goals(first|refine a7 rfl rfl rfl ?_|(refine bM (v':= .bool B1) rfl rfl rfl rfl (congrArg Value.bool e1) ?_;cases B1))
     all_goals refine kO2 ?_
     all_goals(first|refine aH (i:=1) (cs':=[.val (.int .i64 q)]) (by omega) (bn i1) (Nat.zero_lt_succ 0) rfl rfl rfl rfl rfl rfl rfl rfl ?_|refine a7 rfl rfl rfl ?_)
     all_goals refine kO2 ?_
     all_goals(first|refine aH (i:=3) (cs':=[.val (.int .i64 t)]) (by omega) (bn i3) (Nat.zero_lt_succ 0) rfl rfl rfl rfl rfl rfl rfl rfl ?_|refine a7 rfl rfl rfl ?_)
     all_goals refine kO ?_
     all_goals(first|refine a7 rfl rfl rfl ?_|(refine bM (v':= .bool B2) rfl rfl rfl rfl (congrArg Value.bool e2) ?_;cases B2))
     all_goals refine kO3 ?_
     all_goals(first|refine aH (i:=0) (cs':=[.val (.int .i64 p)]) (by omega) (bn i0) (Nat.zero_lt_succ 0) rfl rfl rfl rfl rfl rfl rfl rfl ?_|refine a7 rfl rfl rfl ?_)
     all_goals refine kO2 ?_
     all_goals(first|refine aH (i:=3) (cs':=[.val (.int .i64 t)]) (by omega) (bn i3) (Nat.zero_lt_succ 0) rfl rfl rfl rfl rfl rfl rfl rfl ?_|refine a7 rfl rfl rfl ?_)
     all_goals refine kO ?_
     all_goals(first|refine a7 rfl rfl rfl ?_|(refine bM (v':= .bool B3) rfl rfl rfl rfl (congrArg Value.bool e3) ?_;cases B3))
     all_goals refine kO2 ?_
     all_goals(first|refine aH (i:=1) (cs':=[.val (.int .i64 q)]) (by omega) (bn i1) (Nat.zero_lt_succ 0) rfl rfl rfl rfl rfl rfl rfl rfl ?_|refine a7 rfl rfl rfl ?_)
     all_goals refine kO2 ?_
     all_goals(first|refine aH (i:=2) (cs':=[.val (.int .i64 r)]) (by omega) (bn i2) (Nat.zero_lt_succ 0) rfl rfl rfl rfl rfl rfl rfl rfl ?_|refine a7 rfl rfl rfl ?_)
     all_goals refine kO ?_
     all_goals(first|refine a7 rfl rfl rfl ?_|(refine bM (v':= .bool B4) rfl rfl rfl rfl (congrArg Value.bool e4) ?_;cases B4))
     all_goals refine kO3 ?_
     all_goals refine kG ?_
     all_goals refine kO ?_
     all_goals(first|refine aH (i:=0) (cs':=[.val (.int .i64 p)]) (by omega) (bn i0) (Nat.zero_lt_succ 0) rfl rfl rfl rfl rfl rfl rfl rfl ?_|refine a7 rfl rfl rfl ?_)
     all_goals refine kO2 ?_
     all_goals(first|refine aH (i:=1) (cs':=[.val (.int .i64 q)]) (by omega) (bn i1) (Nat.zero_lt_succ 0) rfl rfl rfl rfl rfl rfl rfl rfl ?_|refine a7 rfl rfl rfl ?_)
     all_goals refine kO ?_
     all_goals(first|refine a7 rfl rfl rfl ?_|(refine bM (v':= .bool N5) rfl rfl rfl rfl (congrArg Value.bool e5) ?_;cases N5))
     all_goals refine kO2 ?_
     all_goals(first|refine aH (i:=2) (cs':=[.val (.int .i64 r)]) (by omega) (bn i2) (Nat.zero_lt_succ 0) rfl rfl rfl rfl rfl rfl rfl rfl ?_|refine a7 rfl rfl rfl ?_)
     all_goals refine kO2 ?_
     all_goals(first|refine aH (i:=3) (cs':=[.val (.int .i64 t)]) (by omega) (bn i3) (Nat.zero_lt_succ 0) rfl rfl rfl rfl rfl rfl rfl rfl ?_|refine a7 rfl rfl rfl ?_)
     all_goals refine kO ?_
     all_goals(first|refine a7 rfl rfl rfl ?_|(refine bM (v':= .bool N6) rfl rfl rfl rfl (congrArg Value.bool e6) ?_;cases N6))
     all_goals refine kW ?_
     all_goals refine bP (T:=TT) rfl ?_
     all_goals exact congrArg (fun b=>RV.one (dB b)) (by rw[<- hb];simp)
    ·rw[if_neg h6]at hb
     exact Iy
   ·have h6:¬(5<=k/\k<=8):=fun h=>by have:=h59 h.1 h.2;cases this
    rw[if_neg h6]at hb
    refine kO2 ?_
    by_cases s1:s=1
    ·refine kB false ?_ ?_
     ·exact(by simp[s1])
     rw[show y7 true s=true by simp[y7,s1],Bool.true_and]at hb
     iterate 3 refine kG ?_
     exact Iy
    ·refine kB true ?_ ?_
     ·exact(by simp[s1])
     refine kO4 ?_
     by_cases s2:s= -1
     ·refine kB false ?_ ?_
      ·exact(by simp[s2])
      rw[show y7 true s=true by simp[y7,s2],Bool.true_and]at hb
      iterate 3 refine kG ?_
      exact Iy
     ·refine kB true ?_ ?_
      ·exact(by simp[s2])
      refine fO ?_;exact congrArg (fun b=>RV.one (dB b)) (by rw[<- hb];simp[y7,s1,s2])
def JL (a b:Cn):Bool:=decide (a.k=b.k) && (decide (a.s=b.s) && (decide (a.ps=b.ps) && (decide (a.cs=b.cs) && (decide (a.vs.length=b.vs.length) && jO a.vs b.vs))))
theorem uG {xs ys:List Int} (hl:xs.length<=1000000):aa Tryz.prog 74 [ma xs,ma ys] (.one (dB (decide (xs=ys)))):=by
 by_cases hxy:xs.length=ys.length
 ·obtain⟨b,hb⟩:∃b,decide (xs=ys)=b:=⟨_,rfl⟩
  rw[hb];refine kU func74 ?_;refine fP ?_;refine yf ?_;refine ax Nat (fun j=>j<=xs.length/\ ∀i,i<j->xs[i]? =ys[i]?) (fun j=>⟨[(0, .d (ma xs)),(1, .d (ma ys)),(4, .d (dB false)),(12, .d (dN .i64 xs.length)),(13, .d (dN .i64 j))],[]⟩) (fun j=>xs.length-j) 0 ⟨Nat.zero_le _,fun i h=>absurd h (Nat.not_lt_zero _)⟩ kw ?_;rintro j ⟨hj,hall⟩;refine kI ?_
  by_cases hlt:j<xs.length
  ·refine kT ?_
   have hlt':j<ys.length:=by omega
   refine N8 ?_
   by_cases he:xs[j]=ys[j]
   ·exact NG
   ·exact Nd
  ·exact IZ
 ·rw[decide_eq_false (fun e=>hxy (by rw[e]))]
  refine kU func74 ?_;refine fP ?_;refine pA ?_;exact am
theorem oU {xs ys:List Int} (hl:xs.length<=1000000):aa Tryz.prog 69 [ma xs,ma ys] (.one (dB (decide (xs=ys)))):=by
 by_cases hxy:xs.length=ys.length
 ·obtain⟨b,hb⟩:∃b,decide (xs=ys)=b:=⟨_,rfl⟩
  rw[hb];refine kU func69 ?_;refine fP ?_;refine yf ?_;refine ax Nat (fun j=>j<=xs.length/\ ∀i,i<j->xs[i]? =ys[i]?) (fun j=>⟨[(0, .d (ma xs)),(1, .d (ma ys)),(5, .d (dN .i64 j))],[]⟩) (fun j=>xs.length-j) 0 ⟨Nat.zero_le _,fun i h=>absurd h (Nat.not_lt_zero _)⟩ kw ?_;rintro j ⟨hj,hall⟩;refine kI ?_
  refine kO3 ?_
  by_cases hlt:j<xs.length
  ·refine kT ?_
   have hlt':j<ys.length:=by omega
   refine N8 ?_
   by_cases he:xs[j]=ys[j]
   ·refine kB false ?_ ?_
    ·exact(by simp[he])
    refine kW ?_;refine⟨j+1,⟨hlt,fun i hi=>?_⟩,by omega,weak ⟨rfl,rfl,aA (by omega) (by omega),trivial⟩ trivial rfl⟩;exact M0
   ·exact Nd
  ·exact IZ
 ·rw[decide_eq_false (fun e=>hxy (by rw[e]))]
  refine kU func69 ?_;refine fP ?_;refine pA ?_;exact am
theorem ru (a b:Cn) (h1:a.ps.length<=1000000) (h2:a.cs.length<=1000000) (h3:a.vs.length<=1000000) (hv:∀x∈a.vs,∀y∈b.vs,aa Tryz.prog 76 [dR x,dR y] (.one (dB (wC x y)))):aa Tryz.prog 34 [dC a,dC b] (.one (dB (JL a b))):=by
 obtain⟨k,ps,cs,vs,s⟩:=a;obtain⟨k',ps',cs',vs',s'⟩:=b;have cP:=uG (ys:=ps') h1;have cQ:=uG (ys:=cs') h2;have cV:=mO (fid:=76) vs vs' hv h3;unfold JL;dsimp only at *;show aa Tryz.prog _ [.agg (cC k ps cs vs s), .agg (cC k' ps' cs' vs' s')] _;generalize(decide (vs.length=vs'.length) && jO vs vs')=V at *;generalize decide (ps=ps')=A at *;generalize decide (cs=cs')=B at *
 by_cases e1:k=k'
 rotate_left
 ·rw[decide_eq_false e1]
  refine kU func34 ?_;refine fP ?_;refine kB false ?_ ?_
  ·exact(by simp[e1])
  exact am
 by_cases e2:s=s'
 rotate_left
 ·rw[decide_eq_true e1,decide_eq_false e2]
  refine kU func34 ?_;refine fP ?_;refine K9 ?_;refine kB false ?_ ?_
  ·exact(by simp[e2])
  exact am
 rw[decide_eq_true e1,decide_eq_true e2];cases A
 ·refine FU ?_
  exact am
 cases B
 ·refine FU ?_
  refine kW ?_;refine kC (cQ) ?_;exact am
 ·refine FU ?_
  refine kW ?_;refine kQ (cQ) ?_;refine kC (cV) ?_;exact am
theorem uW (a b:Cn) (h1:a.ps.length<=1000000) (h2:a.cs.length<=1000000) (h3:a.vs.length<=1000000) (hv:∀x∈a.vs,∀y∈b.vs,aa Tryz.prog 70 [dR x,dR y] (.one (dB (wC x y)))):aa Tryz.prog 28 [dC a,dC b] (.one (dB (JL a b))):=by
 obtain⟨k,ps,cs,vs,s⟩:=a;obtain⟨k',ps',cs',vs',s'⟩:=b;have cP:=oU (ys:=ps') h1;have cQ:=oU (ys:=cs') h2;have hall:=jL vs vs';obtain⟨z,hz⟩:∃z,JL ⟨k,ps,cs,vs,s⟩ ⟨k',ps',cs',vs',s'⟩=z:=⟨_,rfl⟩;rw[hz];unfold JL at hz;dsimp only at *;show aa Tryz.prog _ [.agg (cC k ps cs vs s), .agg (cC k' ps' cs' vs' s')] _;generalize decide (ps=ps')=A at *;generalize decide (cs=cs')=B at *;refine kU func28 ?_;refine kR ?_;refine kI ?_
 refine kO4 ?_
 by_cases e1:k=k'
 rotate_left
 ·refine kB true ?_ ?_
  ·exact(by simp[e1])
  refine fO ?_;exact congrArg (fun b=>RV.one (dB b)) (by rw[<- hz,decide_eq_false e1];rfl)
 refine kB false ?_ ?_
 ·exact(by simp[e1])
 refine kO5 ?_
 by_cases e2:s=s'
 rotate_left
 ·refine kB true ?_ ?_
  ·exact(by simp[e2])
  refine fO ?_;exact congrArg (fun b=>RV.one (dB b)) (by rw[<- hz,decide_eq_false e2];simp)
 refine kB false ?_ ?_
 ·exact(by simp[e2])
 iterate 6 refine kO ?_
 refine kC (cP) ?_;cases A
 ·refine fO ?_
  exact congrArg (fun b=>RV.one (dB b)) (by rw[<- hz];simp)
 iterate 7 refine kO ?_
 refine kC (cQ) ?_;cases B
 ·refine fO ?_
  exact congrArg (fun b=>RV.one (dB b)) (by rw[<- hz];simp)
 iterate 9 refine kO ?_
 rw[decide_eq_true e1,decide_eq_true e2]at hz
 by_cases e3:vs.length=vs'.length
 rotate_left
 ·refine pA ?_
  refine fO ?_;exact congrArg (fun b=>RV.one (dB b)) (by rw[<- hz,decide_eq_false e3];simp)
 refine kB false ?_ ?_
 ·exact(by simp[e3])
 rw[decide_eq_true e3]at hz;have hall:=hall e3;have hz:jO vs vs'=z:=hz;rw[hz]at hall;clear hz;refine kW ?_;refine ax Nat (fun i=>i<=vs.length/\ ∀(q:Nat) x y,q<i->vs[q]? =some x->vs'[q]? =some y->wC x y=true) (fun i=>⟨[(2, .box 0 0),(3, .box 1 0),(5, .d (dN .i64 i))],[(0,some (cC k ps cs vs s)),(1,some (cC k' ps' cs' vs' s'))]⟩) (fun i=>vs.length-i) 0 ⟨Nat.zero_le _,fun q x y h=>absurd h (Nat.not_lt_zero _)⟩ kw ?_;rintro i ⟨hi,hq⟩;refine kI ?_
 refine kO4 ?_
 by_cases hlt:i<vs.length
 ·refine kT ?_
  have hlt':i<vs'.length:=by omega
  obtain⟨o1,na1,xs1,nb1,ys1,nm1,n1,cs1,hA⟩:=aN vs[i];obtain⟨o2,na2,xs2,nb2,ys2,nm2,n2,cs2,hA2⟩:=aN vs'[i];have hx:vs[i]? =some vs[i]:=by simp[hlt]
  have hy:vs'[i]? =some vs'[i]:=by simp[hlt']
  have hat:∀(j:Nat) (a:AV),(ab o1 na1 xs1 nb1 ys1 nm1 n1 cs1)[j]? =some a->(d7 vs)[i*7+j]? =some a:=fun j a h=>dz vs i vs[i] hx j a (by rw[hA];exact h)
  have hat':∀(j:Nat) (a:AV),(ab o2 na2 xs2 nb2 ys2 nm2 n2 cs2)[j]? =some a->(d7 vs')[i*7+j]? =some a:=fun j a h=>dz vs' i vs'[i] hy j a (by rw[hA2];exact h)
  have c:=hv vs[i] (List.getElem_mem hlt) vs'[i] (List.getElem_mem hlt');rw[show dR vs[i]= .agg (ab o1 na1 xs1 nb1 ys1 nm1 n1 cs1) from congrArg DV.agg hA,show dR vs'[i]= .agg (ab o2 na2 xs2 nb2 ys2 nm2 n2 cs2) from congrArg DV.agg hA2]at c;refine kG ?_
  refine kO3 ?_
  refine MD ?_
  refine kO4 ?_
  refine Ja ?_;refine kO ?_;have hw:=fun h=>hall.1 h i _ _ hx hy
  obtain⟨E,hE⟩:∃E,wC vs[i] vs'[i]=E:=⟨_,rfl⟩;rw[hE]at c hw;cases E
  ·refine kC (c) ?_
   refine fO ?_;exact congrArg (fun b=>RV.one (dB b)) (by cases z;rfl;exact hw rfl)
  ·refine kC (c) ?_
   refine kW ?_
   exact⟨i+1,⟨hlt,fun q x y h1 h2 h3=>by
    by_cases e:q=i
    ·subst e;rw[hx]at h2;rw[hy]at h3;cases h2;cases h3;exact hE
    ·exact hq q x y (by omega) h2 h3⟩,by omega,weak ⟨rfl,rfl,aA (by omega) (by omega),trivial⟩ ⟨rfl,rfl,trivial⟩ rfl⟩
 ·have hB:z=true:=hall.2 fun q x y h2 h3=>hq q x y (by have:=(List.getElem?_eq_some_iff.1 h2).1;omega) h2 h3
  refine kE ?_;refine fO ?_;exact congrArg (fun b=>RV.one (dB b)) hB.symm
def JC (c:Cn):Bool:=c.vs.all (fun x=>decide (sH x 120<=120) && pW x) && (decide (c.ps.length<=10) && (decide (c.cs.length<=10) && decide (c.vs.length<=4)))
theorem f3 (c:Cn) (hw:Ng c) (h1:c.ps.length<=9223372036854775807) (h2:c.cs.length<=9223372036854775807) (h3:c.vs.length<=9223372036854775807):aa Tryz.prog 16 [dC c] (.one (dB (JC c))):=by
 have hv:=fun x hx=>wi x (hw.vs x hx)
 obtain⟨z,hz⟩:∃z,JC c=z:=⟨_,rfl⟩;rw[hz];unfold JC at hz;obtain⟨k,ps,cs,vs,s⟩:=c;dsimp only at *;show aa Tryz.prog _ [.agg (cC k ps cs vs s)] _;refine kV func16 ?_;refine ax Nat (fun i=>i<=vs.length/\ ∀x∈vs.take i,(decide (sH x 120<=120) && pW x)=true) (fun i=>⟨[(1, .box 0 0),(3, .d (dN .i64 i))],[(0,some (cC k ps cs vs s))]⟩) (fun i=>vs.length-i) 0 ⟨Nat.zero_le _,by simp⟩ kw ?_;rintro i ⟨hi,hn⟩;refine kI ?_
 refine kO4 ?_
 by_cases hlt:i<vs.length
 ·refine kT ?_
  obtain⟨x,hx⟩:∃x,vs[i]? =some x:=⟨vs[i],by simp[hlt]⟩;have cV:=hv x (List.mem_of_getElem? hx);have hat:=dz vs i x hx;obtain⟨o1,na1,xs1,nb1,ys1,nm1,n1',cs1,hX⟩:=aN x;rw[show dR x= .agg (ab o1 na1 xs1 nb1 ys1 nm1 n1' cs1) from congrArg DV.agg hX]at cV;rw[hX]at hat;obtain⟨E,hE⟩:∃E,(decide (sH x 120<=120) && pW x)=E:=⟨_,rfl⟩;rw[hE]at cV;refine kG ?_
  refine kO3 ?_
  refine GF ?_;refine kO ?_;cases E
  ·refine kC (cV) ?_
   refine fO ?_;refine congrArg (fun b=>RV.one (dB b)) ?_
   rw[<- hz,show vs.all (fun x=>decide (sH x 120<=120) && pW x)=false from Bool.eq_false_iff.2 fun h=>by
    have:=List.all_eq_true.1 h x (List.mem_of_getElem? hx);rw[hE]at this;cases this]
   rfl
  ·refine kC (cV) ?_
   refine kW ?_;refine⟨i+1,⟨hlt,?_⟩,by omega,weak ⟨rfl,aA (by omega) (by omega),trivial⟩ ⟨rfl,trivial⟩ rfl⟩;rw[bJ hx];intro y hy;rcases List.mem_append.1 hy with hy|hy
   ·exact hn y hy
   ·rw[List.mem_singleton.1 hy];exact hE
 ·refine kE ?_
  rw[List.take_of_length_le (by omega)]at hn;rw[List.all_eq_true.2 hn,Bool.true_and]at hz;refine kG ?_
  refine kO3 ?_
  by_cases g1:ps.length<=10
  rotate_left
  ·refine kE ?_
   refine fO ?_;exact congrArg (fun b=>RV.one (dB b)) (by rw[<- hz,decide_eq_false g1];rfl)
  refine kT ?_
  refine kO4 ?_
  by_cases g2:cs.length<=10
  rotate_left
  ·refine kE ?_
   refine fO ?_;exact congrArg (fun b=>RV.one (dB b)) (by rw[<- hz,decide_eq_false g2];simp)
  refine kT ?_
  refine kO5 ?_
  by_cases g3:vs.length<=4
  rotate_left
  ·refine kE ?_
   refine fO ?_;exact congrArg (fun b=>RV.one (dB b)) (by rw[<- hz,decide_eq_false g3];simp)
  refine kX ?_;refine bP (T:=TT) rfl ?_;exact congrArg (fun b=>RV.one (dB b)) (by rw[<- hz];simp[g1,g2,g3])
theorem Qa:Tryz.prog.globalNamed "strconv.ErrSyntax" =some 6:=by kernel_rfl
theorem Qh:(Tryz.prog.globals[6]?).map (·.type)=some 142:=by kernel_rfl
theorem OW:Tryz.prog.globalNamed "strconv.ErrRange" =some 7:=by kernel_rfl
theorem Pk:(Tryz.prog.globals[7]?).map (·.type)=some 142:=by kernel_rfl
theorem xS {laid:List (String × DataW Unit)} {ps:List MemPlace} {W:World} {name nm:String} {d:DataW Unit} {g:Nat} (hv:DataW.LaidVars Tryz.prog W laid ps) (hm:(name, .iface nm d)∈laid) (hg:Tryz.prog.globalNamed name=some g) (ht:(Tryz.prog.globals[g]?).map (·.type)=some 142):
 ∃ev,W.cell? ⟨g,0,none⟩=some ev/\(ev= .nilIface∨ ∃te pe,ev= .iface te pe):=by
 obtain⟨g',t,cs,fuel,p,h1,h2,h3,h4⟩:=ga hv hm;obtain rfl:=Option.some.inj (hg.symm.trans h1);obtain rfl:=Option.some.inj (ht.symm.trans h2);obtain⟨_,u,v,e,_⟩:=iface_of_trod underlying142 h4;refine⟨.iface u v,?_, .inr ⟨u,v,rfl⟩⟩;have h:=World.var?_cell hg h3 0;obtain⟨l⟩:=cs;dsimp only at e;subst e
 simpa using h
set_option maxRecDepth 100000 in
theorem yG {W:World} (h:W.ShapedOpen Tryz.prog):∃m,W.cell? ⟨3,0,none⟩=some (.int .i64 m):=
 Go.Proofs.cell_of_shapedOpen_int (zero:= #[.int .i64 0]) (t:=3) h (of_decide_eq_true (by kernel_rfl)) (by kernel_rfl) rfl (by kernel_rfl) (by kernel_rfl) underlying3
theorem nX {laid:List (String × DataW Unit)} (hp:(laid.all fun x=>x.2.handleName?.isNone)=true) (hm5:("strconv.ErrSyntax",Rows.laid_strconv_ErrSyntax)∈laid) (hm6:("strconv.ErrRange",Rows.laid_strconv_ErrRange)∈laid) {W:World} (hs:W.ShapedOpen Tryz.prog) (h:laidMetH Tryz.prog laid W):oh W:=by
 rw[MakeChecks.laidMetH_plain _ _ _ hp]at h;obtain⟨ps,hv,_⟩:=h;exact⟨yG hs,xS hv hm5 Qa Qh,xS hv hm6 OW Pk⟩
section
variable {H:Type} {enc:TypeId × Value->H}
theorem eJ {a:Assume} {C:Checked} {os:Os} {f:FuncId} {fn:Func} {s:ChangeSpec} {conds:List PathCond} {apart fresh handsOn again:Bool} {X:World->Array Value->Prop}
 (hX:∀(w w':World) (args:Array Value),w.heap=w'.heap->X w args->X w' args)
 (own:ownKnob C.prog.godebug=none) (started:os.Started) (noInit:C.prog.inits.idxOf? f=none) (hfn:C.prog.funcs[f]? =some fn)
 (witness:∃(w:World) (tape:Tape) (i:Input),w.os=os/\(w.forCall tape i).Shaped C.prog/\i.vars=[]/\Input.okWide C.prog (w.forCall tape i) .any w.heap.size f i /\
  ((s.pre enc C.prog fn conds apart (w.forCall tape i).memory i.args/\X (w.forCall tape i).memory i.args)/\sizedMet enc C.prog fn (OpenSpec.ofChange s) apart (w.forCall tape i).memory i.args)/\a.holds C.prog (lone (Frame.enter C.prog f i.args .normal) [] (w.forCall tape i)))
 (contract:∀(W:World) (base:Nat) (args:Array Value) (ds gs:List (DataW H)) (before:List MemPlace),
  (∀(j:Nat) t v,fn.params[j]? =some t->args[j]? =some v->Value.okWide C.prog W .any base t v) ->
  DataW.Whole enc C.prog fn.params.toList s.vars apart W args.toList ds gs before ->
  conds.all (PathCond.test C.prog ⟨fn.params.toList,ds,s.plain.varTypes C.prog,gs⟩)=true ->
  W.ShapedOpen C.prog->X W args ->
  a.holds C.prog (lone (Frame.enter C.prog f args .normal) [] W) ->
  Calls C.prog f args W fun e W'=>∃v,e= .returned v/\s.post enc C.prog fn apart fresh handsOn again W args v W'):
 ReturnsInHanded a C os f .any (fun w args=>(s.pre enc C.prog fn conds apart w args/\X w args)/\sizedMet enc C.prog fn (OpenSpec.ofChange s) apart w args) (s.post enc C.prog fn apart fresh handsOn again):=by
 refine returnsInHanded_of_calls own started noInit witness ?_;intro w tape i _ hsh _ hok hpre hholds;obtain⟨_,_,_,fn',hfn',_,_,_,_,hval⟩:=hok;obtain rfl:fn'=fn:=Option.some.inj (hfn'.symm.trans hfn);obtain⟨⟨⟨ds,gs,before,hw,hc⟩,hx⟩,hz⟩:=hpre;refine(contract (w.forCall tape i) w.heap.size i.args ds gs before hval (DataW.Whole.of_heap (w':=w.forCall tape i) (by rfl) hw) hc hsh (hX _ _ _ (by rfl) hx) hholds).mono fun e W' ⟨v,he,hp⟩=>?_
 subst he;exact ChangeSpec.post_blind hp
end
theorem zz {S:Nat->Prop} {w:World} {n:Nat} {cs:List AV} {v:Value} (h:AV.M S w (.sl n cs) v):n<=9223372036854775807:=by
 cases h with
 |emp a b _=>omega
 |sl f a b _ _ _ _=>omega
structure Th (c:Cn):Prop where
 p:c.ps.length<=9223372036854775807
 q:c.cs.length<=9223372036854775807
 v:c.vs.length<=9223372036854775807
theorem PA {S:Nat->Prop} {w:World} {c:Cn} {v:Value} (h:DV.M S w (dC c) v):Th c:=by
 obtain⟨vs,_,hl,hm⟩:=h;have h5:vs.length=5:=hl.symm;have hg:∀i (hi:i<5),vs[i]? =some (vs[i]'(by omega)):=fun i hi=>List.getElem?_eq_getElem _
 exact⟨zz (hm 1 _ _ rfl (hg 1 (by decide))),zz (hm 2 _ _ rfl (hg 2 (by decide))),zz (hm 3 _ _ rfl (hg 3 (by decide)))⟩
theorem Dd {P:Program} {f:FuncId} {c:Cn} {ds:List DV} {r:RV} (hent:∀args w,(callFunc f args).run P w= .ok (.enter f args) w) (h:Th c->aa P f (dC c::ds) r):aa P f (dC c::ds) r:=
 ⟨hent,fun S w vs hS hv=>by
  match vs,hv with
  |v::vs,⟨h1,h2⟩=>exact(h (PA h1)).calls S w _ hS ⟨h1,h2⟩⟩
theorem Fu {P:Program} {f:FuncId} {c d:Cn} {ds:List DV} {r:RV} (hent:∀args w,(callFunc f args).run P w= .ok (.enter f args) w) (h:Th c->Th d->aa P f (dC c::dC d::ds) r):aa P f (dC c::dC d::ds) r:=
 ⟨hent,fun S w vs hS hv=>by
  match vs,hv with
  |v::u::vs,⟨h1,h2,h3⟩=>exact(h (PA h1) (PA h2)).calls S w _ hS ⟨h1,h2,h3⟩⟩
structure QL (c:Cn):Prop where
 p:c.ps.length<=10
 q:c.cs.length<=10
 v:c.vs.length<=4
 x:∀x∈c.vs,AF x
theorem pS {c:Cn} (hw:Ng c) (h:JC c=true):QL c:=by
 unfold JC at h
 simp only[Bool.and_eq_true,decide_eq_true_eq,List.all_eq_true]at h
 obtain⟨h1,h2,h3,h4⟩:=h;exact⟨h2,h3,h4,fun x hx=>⟨hw.vs x hx,(h1 x hx).2,by rw[<- (uL x 120).2.2 (h1 x hx).1];exact(h1 x hx).1⟩⟩
theorem QL.valid {c:Cn} (h:QL c) (P Q:Int):aa Tryz.prog 17 [dC c,dN .i64 P,dN .i64 Q] (.one (dB (vA c P Q))):=lI c P Q (by have:=h.p;omega) (by have:=h.q;omega) (by have:=h.v;omega) fun x hx=>gP x (h.x x hx).wd (h.x x hx).lm (by have:=(h.x x hx).sz;omega)
theorem QL.rvalid {c:Cn} (h:QL c) (P Q:Int):aa Tryz.prog 18 [dC c,dN .i64 P,dN .i64 Q] (.one (dB (vA c P Q))):=wt c P Q (by have:=h.p;omega) (by have:=h.q;omega) (by have:=h.v;omega) fun x hx=>vq x (h.x x hx).wd (h.x x hx).lm (by have:=(h.x x hx).sz;omega)
end Go.Proofs.YtnchbpoopnjghaaGreatDoor
